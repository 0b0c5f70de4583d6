/- A struct stored whole into a variable. -/
import Derived.Test.YtdkjlbbbdjkhbaaPAllx0
import Derived.Deep.MidRow
set_option linter.unusedVariables false
namespace Go.Proofs.Ytdkjlbbbdjkhbaa.Hand
open Go.RowKit Go.Proofs.YtdkjlbbbdjkhbaaW.PrintWords Go.Proofs.YtdkjlbbbdjkhbaaW.PrintLast Go.Proofs.Ytdkjlbbbdjkhbaa.PAll

theorem setCells_all {g : Nat} {t : TypeId} : ∀ (vs pre cs : List Value) (W : World), cs.length = vs.length → W.heap[g]? = some (.cells (pre ++ cs).toArray t (0, 0)) →
    (W.setCells g pre.length vs).heap[g]? = some (.cells (pre ++ vs).toArray t (0, 0))
  | [], pre, cs, W, hl, h => by
    obtain rfl : cs = [] := List.eq_nil_of_length_eq_zero hl
    exact h
  | v :: r, pre, [], W, hl, h => by simp at hl
  | v :: r, pre, c :: cs, W, hl, h => by
    have h1 : (W.setCell ⟨g, pre.length, none⟩ v).heap[g]? = some (.cells ((pre ++ [v]) ++ cs).toArray t (0, 0)) := blk_put h pre.length v (by simp)
    have := setCells_all r (pre ++ [v]) cs _ (by simpa using hl) h1
    rw [World.setCells]
    rw [List.length_append, List.length_singleton] at this
    rw [this]
    simp
theorem setCells_keep {g : Nat} : ∀ (vs : List Value) (o : Nat) (W0 W : World), KeepBut W0 W g none → KeepBut W0 (W.setCells g o vs) g none
  | [], _, _, _, h => h
  | v :: r, o, W0, W, h => setCells_keep r (o + 1) W0 _ (h.set_ o v)
theorem setCells_below {g : Nat} {w0 : World} (hg : w0.heap.size ≤ g) : ∀ (vs : List Value) (o : Nat) (W : World), Below w0.heap.size w0 W → Below w0.heap.size w0 (W.setCells g o vs)
  | [], _, _, h => h
  | v :: r, o, W, h => setCells_below hg r (o + 1) _ (below_set h hg)
theorem wpList_store_all {P : Program} {W : World} {ops : Array Oper} {rest : List Oper} {o : Oper} {a : Act} {Q : Exit → Act → World → Prop} {g : Nat} {t : TypeId} {cs vs : List Value}
    (hg : o.guard = none) (p x : Operand) (hop : o.op = .store t p x) (hp : a.eval p = .pointer (some ⟨g, 0, none⟩)) (hx : a.eval x = .agg vs.toArray)
    (h : W.heap[g]? = some (.cells cs.toArray t (0, 0))) (hl : cs.length = vs.length) (hi : (P.info? t).map (·.size) = some vs.length) (h1 : vs.all (·.oneCell') = true)
    (hK : ∀ W' : World, W'.heap[g]? = some (.cells vs.toArray t (0, 0)) → KeepBut W W' g none → (∀ w0 : World, Below w0.heap.size w0 W → w0.heap.size ≤ g → Below w0.heap.size w0 W') →
      wpList P ops Q rest (a.put o.dst undef) W') : wpList P ops Q (o :: rest) a W := by
  have ht : W.there g 0 vs.toArray.size := fun i hi => ⟨by
    rw [show (⟨g, 0 + i, none⟩ : Addr) = ⟨g, i, none⟩ by rw [Nat.zero_add], blk_cell h i]
    have : i < cs.length := by rw [hl]; simpa using hi
    simp [this], by
    rw [show (⟨g, 0 + i, none⟩ : Addr) = ⟨g, i, none⟩ by rw [Nat.zero_add]]
    exact blk_frozen h i⟩
  refine wpList_store_mid hg t p x hop g 0 _ hp hx ht (by simpa using hi) (by simpa using h1) ?_
  exact hK _ (setCells_all vs [] cs W hl h) (setCells_keep _ _ _ _ (KeepBut.refl _ _ _)) (fun w0 hb hle => setCells_below hle _ _ _ hb)
end Go.Proofs.Ytdkjlbbbdjkhbaa.Hand
