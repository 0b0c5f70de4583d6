/- A struct stored whole, as one step of a region that draws. -/
import Derived.Test.YtdkjlbbbdjkhbaaHandS
set_option linter.unusedVariables false
namespace Go.Proofs.Ytdkjlbbbdjkhbaa.Hand
open Go.RowKit Go.Proofs.YtdkjlbbbdjkhbaaW.PrintWords Go.Proofs.YtdkjlbbbdjkhbaaW.PrintLast Go.Proofs.Ytdkjlbbbdjkhbaa.PAll
theorem store_all_ {P : Program} {W : World} {ops : Array Oper} {o : Oper} {a : Act} {K : Act → World → Prop} {Q : Exit → Act → World → Prop} {g : Nat} {t : TypeId} {cs vs : List Value}
    (hw : Region.wanted o (yielded ops a.tmps) = true) (hN : o.dst = none) (p x : Operand) (hop : o.op = .store t p x) (hp : a.eval p = .pointer (some ⟨g, 0, none⟩)) (hx : a.eval x = .agg vs.toArray)
    (h : W.heap[g]? = some (.cells cs.toArray t (0, 0))) (hl : cs.length = vs.length) (hi : (P.info? t).map (·.size) = some vs.length) (h1 : vs.all (·.oneCell') = true)
    (hK : ∀ W' : World, W'.heap[g]? = some (.cells vs.toArray t (0, 0)) → KeepBut W W' g none → (∀ w0 : World, Below w0.heap.size w0 W → w0.heap.size ≤ g → Below w0.heap.size w0 W') → K a W') :
    if Region.wanted o (yielded ops a.tmps) = true then Oper.wp P o a W K Q else K (a.put none undef) W := by
  rw [if_pos hw]
  have ht : W.there g 0 vs.toArray.size := fun i hi => ⟨by
    rw [show (⟨g, 0 + i, none⟩ : Addr) = ⟨g, i, none⟩ by rw [Nat.zero_add], blk_cell h i]
    have : i < cs.length := by rw [hl]; simpa using hi
    simp [this], by
    rw [show (⟨g, 0 + i, none⟩ : Addr) = ⟨g, i, none⟩ by rw [Nat.zero_add]]
    exact blk_frozen h i⟩
  refine wp_store_mid t p x hop g 0 _ hp hx ht (by simpa using hi) (by simpa using h1) ?_
  rw [hN]
  exact hK _ (setCells_all vs [] cs W hl h) (setCells_keep _ _ _ _ (KeepBut.refl _ _ _)) (fun w0 hb hle => setCells_below hle _ _ _ hb)
end Go.Proofs.Ytdkjlbbbdjkhbaa.Hand
