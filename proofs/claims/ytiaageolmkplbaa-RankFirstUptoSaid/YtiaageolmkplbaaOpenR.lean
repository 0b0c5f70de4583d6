/- By hand: slices of bytes, and a trigger's code, as arguments. -/
import Derived.Test.YtiaageolmkplbaaOpenK
import Derived.Test.YtiaageolmkplbaaProg
set_option linter.unusedVariables false
namespace Go.Proofs.Ytiaageolmkplbaa.OpenK
open Go.ChangeShapes Go.WideShapes Go.RowKit Go.Proofs.YtiaageolmkplbaaW.PrintWords
theorem Opens.structOf {α : Type} {P : Program} {d : Kd α} {G : α → Prop} {t : TypeId} {fs : Array Field} (ht : P.underlying t = some (.struct fs)) (hc : P.cellsOf t = d.sz) (h : OpensFs P d G fs.toList 0) : Opens P d G t :=
  Opens.struct (fun x => x) (fun x => x) (fun _ => rfl) ht hc h
theorem o4 : Opens Try.prog Kd.bool (fun _ => True) 4 := .bool Try.underlying4 (by kernel_rfl)
theorem o5w : Opens Try.prog (Kd.int .u8) (fun n => (Lit.int .u8 n).wf = true) 5 := .int Try.underlying5 (by kernel_rfl) (fun _ h => h)
abbrev BytesG (l : List Int) : Prop := l.length * 1 ≤ 140737488351232 ∧ ∀ x ∈ l, (Lit.int .u8 x).wf = true
theorem bytes5 : Try.prog.bytesOf 5 = 1 := by kernel_rfl
theorem o23 : Opens Try.prog (Kd.slice 5 (Kd.int .u8)) BytesG 23 := by
  have h := Opens.slice o5w Try.underlying23 (by kernel_rfl) (0 : Int)
  rw [bytes5] at h
  exact h
theorem slice_arg {P : Program} {α : Type} {d : Kd α} {G : List α → Prop} {t e : TypeId} (ho : Opens P (Kd.slice e d) G t) (hu : P.underlying t = some (.slice e)) {H : Type} {enc : TypeId × Value → H} {W : World} {r : Reach} {base b0 : Nat} {spare : Nat → Bool} {held : Bool} {v : Value} {y : DataW H} {p : List MemPlace} {ts : List TypeId} {ds : List (DataW H)} {j : Nat}
    (hsz : (DataW.weightsEach P ts ds).all (· ≤ reachBytes) = true) (ht : ts[j]? = some t) (hd : ds[j]? = some y) (hk : Value.okWide P W r b0 t v) (hv : DataW.Trod enc P W base spare held t v y p) :
    ∃ (A : Option Addr) (c : Nat) (l : List α), v = .slice A l.length c ∧ Kd.C d W A l.length l ∧ l.length ≤ c ∧ G l := by
  obtain ⟨a0, len, cap, rfl⟩ := okWide_slice hu hk
  obtain ⟨l, hK, g⟩ := ho.arg hsz ht hd hv
  obtain ⟨A, c, he, hl, hC⟩ := hK
  have he' : [Value.slice a0 len cap] = [Value.slice A l.length c] := he
  exact ⟨A, c, l, List.head_eq_of_cons_eq he', hC, hl, g⟩
/-- A code: kind, names, whether six, bits. -/
abbrev kCode : Kd (Int × List Int × Bool × Int) := Kd.pair (Kd.int .u8) (Kd.pair (Kd.slice 5 (Kd.int .u8)) (Kd.pair Kd.bool (Kd.int .u8)))
abbrev CodeG (c : Int × List Int × Bool × Int) : Prop := (Lit.int .u8 c.1).wf = true ∧ BytesG c.2.1 ∧ True ∧ (Lit.int .u8 c.2.2.2).wf = true
theorem o45 : Opens Try.prog kCode CodeG 45 := by
  have h := Opens.structOf (d := kCode) Try.underlying45 (by kernel_rfl) (.cons rfl o5w (.cons rfl o23 (.cons rfl o4 (.one rfl o5w))))
  exact h
structure CodeIs (W : World) (v : Value) (c : Int × List Int × Bool × Int) : Prop where
  val : ∃ A0 c0, v = .agg #[.int .u8 c.1, .slice A0 c.2.1.length c0, .bool c.2.2.1, .int .u8 c.2.2.2] ∧ Kd.C (Kd.int .u8) W A0 c.2.1.length c.2.1 ∧ c.2.1.length ≤ c0
  is : CodeG c
theorem code_arg {H : Type} {enc : TypeId × Value → H} {W : World} {r : Reach} {base b0 : Nat} {spare : Nat → Bool} {held : Bool} {v : Value} {y : DataW H} {p : List MemPlace} {ts : List TypeId} {ds : List (DataW H)} {j : Nat}
    (hsz : (DataW.weightsEach Try.prog ts ds).all (· ≤ reachBytes) = true) (ht : ts[j]? = some 45) (hd : ds[j]? = some y) (hk : Value.okWide Try.prog W r b0 45 v) (hv : DataW.Trod enc Try.prog W base spare held 45 v y p) : ∃ c, CodeIs W v c := by
  obtain ⟨cs, rfl, _⟩ := okWide_struct Try.underlying45 hk
  obtain ⟨c, hK, g⟩ := o45.arg hsz ht hd hv
  obtain ⟨_, _, e, h0, _, _, rfl, ⟨A0, c0, rfl, l0, r0⟩, _, _, rfl, h2, h3⟩ := hK
  rw [show _ = [Value.int .u8 c.1] from h0, show _ = [Value.bool c.2.2.1] from h2, show _ = [Value.int .u8 c.2.2.2] from h3] at e
  refine ⟨c, ⟨A0, c0, ?_, r0, l0⟩, g⟩
  have e' : cs.toList = _ := e
  cases cs
  exact congrArg (fun l => Value.agg ⟨l⟩) e'
end Go.Proofs.Ytiaageolmkplbaa.OpenK
