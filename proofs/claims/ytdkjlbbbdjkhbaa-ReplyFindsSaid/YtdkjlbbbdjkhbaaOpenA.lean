/- By hand: slices of numbers, of records, and of what records are made of, as arguments; a choice. -/
import Derived.Test.YtdkjlbbbdjkhbaaOpenM
import Derived.Test.YtdkjlbbbdjkhbaaActB
set_option linter.unusedVariables false
namespace Go.Proofs.Ytdkjlbbbdjkhbaa.OpenK
open Go.ChangeShapes Go.WideShapes Go.RowKit Go.Proofs.YtdkjlbbbdjkhbaaW.PrintWords Go.Proofs.Ytdkjlbbbdjkhbaa.PAll
theorem o5w : Opens Try.prog (Kd.int .u8) (fun n => (Lit.int .u8 n).wf = true) 5 := .int Try.underlying5 (by kernel_rfl) (fun _ h => h)
abbrev BytesG (l : List Int) : Prop := l.length * 1 ≤ 140737488351232 ∧ ∀ x ∈ l, (Lit.int .u8 x).wf = true
theorem bytes5 : Try.prog.bytesOf 5 = 1 := by kernel_rfl
theorem o22 : Opens Try.prog (Kd.slice 5 (Kd.int .u8)) BytesG 22 := by
  have h := Opens.slice o5w Try.underlying22 (by kernel_rfl) (0 : Int)
  rw [bytes5] at h
  exact h
abbrev ActG (a : S86) : Prop := BytesG a.f0 ∧ (Lit.int .u8 a.f1).wf = true ∧ InU 4294967295 a.f2 ∧ BytesG a.f3 ∧ a.f4.size ≤ reachBytes
theorem o86 : Opens Try.prog k86 ActG 86 :=
  Opens.struct (fun x : S86 => (x.f0, x.f1, x.f2, x.f3, x.f4)) (fun y => ⟨y.1, y.2.1, y.2.2.1, y.2.2.2.1, y.2.2.2.2⟩) (fun _ => rfl) Try.underlying86 (by kernel_rfl)
    (.cons rfl o22 (.cons rfl o5w (.cons rfl o41 (.cons rfl o22 (.one rfl o9)))))
theorem ActG.ok {a : S86} (h : ActG a) : ActA.ActOk a := ⟨h.1.1, h.1.2, h.2.2.2.1.1, h.2.2.2.1.2⟩
abbrev ActsG (l : List S86) : Prop := l.length ≤ 140737488351232 ∧ ∀ a ∈ l, ActG a
theorem bytes86 : 1 ≤ Try.prog.bytesOf 86 := by rw [show Try.prog.bytesOf 86 = 72 by kernel_rfl]; decide
theorem Opens.imp {α : Type} {P : Program} {d : Kd α} {G G' : α → Prop} {t : TypeId} (h : Opens P d G t) (hg : ∀ x, G x → G' x) : Opens P d G' t :=
  ⟨h.1, fun H enc w base spare held fuel cs x hx hw => by obtain ⟨v, h1, h2⟩ := h.2 H enc w base spare held fuel cs x hx hw; exact ⟨v, h1, hg v h2⟩⟩
theorem o36 : Opens Try.prog (Kd.slice 86 k86) ActsG 36 :=
  (Opens.slice o86 Try.underlying36 (by kernel_rfl) z86).imp (fun l h => ⟨by
    have h1 := h.1
    have h2 := Nat.mul_le_mul_left l.length bytes86
    rw [Nat.mul_one] at h2
    exact Nat.le_trans h2 h1, h.2⟩)
theorem ActsG.ok {l : List S86} (h : ActsG l) : ∀ a ∈ l, ActA.ActOk a := fun a ha => ActG.ok (h.2 a ha)
theorem slice_arg {P : Program} {α : Type} {d : Kd α} {G : List α → Prop} {t e : TypeId} (ho : Opens P (Kd.slice e d) G t) (hu : P.underlying t = some (.slice e)) {H : Type} {enc : TypeId × Value → H} {W : World} {r : Reach} {base b0 : Nat} {spare : Nat → Bool} {held : Bool} {v : Value} {y : DataW H} {p : List MemPlace} {ts : List TypeId} {ds : List (DataW H)} {j : Nat}
    (hsz : (DataW.weightsEach P ts ds).all (· ≤ reachBytes) = true) (ht : ts[j]? = some t) (hd : ds[j]? = some y) (hk : Value.okWide P W r b0 t v) (hv : DataW.Trod enc P W base spare held t v y p) :
    ∃ (A : Option Addr) (c : Nat) (l : List α), v = .slice A l.length c ∧ Kd.C d W A l.length l ∧ l.length ≤ c ∧ G l := by
  obtain ⟨a0, len, cap, rfl⟩ := okWide_slice hu hk
  obtain ⟨l, hK, g⟩ := ho.arg hsz ht hd hv
  obtain ⟨A, c, he, hl, hC⟩ := hK
  have he' : [Value.slice a0 len cap] = [Value.slice A l.length c] := he
  exact ⟨A, c, l, List.head_eq_of_cons_eq he', hC, hl, g⟩
/-- A choice: kind, how, names, records. -/
abbrev kChoice : Kd (Int × Int × List Int × List S86) := Kd.pair (Kd.int .u8) (Kd.pair (Kd.int .u8) (Kd.pair (Kd.slice 5 (Kd.int .u8)) (Kd.slice 86 k86)))
abbrev ChoiceG (c : Int × Int × List Int × List S86) : Prop := (Lit.int .u8 c.1).wf = true ∧ (Lit.int .u8 c.2.1).wf = true ∧ BytesG c.2.2.1 ∧ ActsG c.2.2.2
theorem o64 : Opens Try.prog kChoice ChoiceG 64 := by
  have h := Opens.structOf (d := kChoice) Try.underlying64 (by kernel_rfl) (.cons rfl o5w (.cons rfl o5w (.cons rfl o22 (.one rfl o36))))
  exact h
structure ChoiceIs (W : World) (v : Value) (c : Int × Int × List Int × List S86) : Prop where
  val : ∃ A0 c0 A1 c1, v = .agg #[.int .u8 c.1, .int .u8 c.2.1, .slice A0 c.2.2.1.length c0, .slice A1 c.2.2.2.length c1] ∧ Kd.C (Kd.int .u8) W A0 c.2.2.1.length c.2.2.1 ∧ c.2.2.1.length ≤ c0 ∧ Kd.C k86 W A1 c.2.2.2.length c.2.2.2 ∧ c.2.2.2.length ≤ c1
  is : ChoiceG c
theorem choice_arg {H : Type} {enc : TypeId × Value → H} {W : World} {r : Reach} {base b0 : Nat} {spare : Nat → Bool} {held : Bool} {v : Value} {y : DataW H} {p : List MemPlace} {ts : List TypeId} {ds : List (DataW H)} {j : Nat}
    (hsz : (DataW.weightsEach Try.prog ts ds).all (· ≤ reachBytes) = true) (ht : ts[j]? = some 64) (hd : ds[j]? = some y) (hk : Value.okWide Try.prog W r b0 64 v) (hv : DataW.Trod enc Try.prog W base spare held 64 v y p) : ∃ c, ChoiceIs W v c := by
  obtain ⟨cs, rfl, _⟩ := okWide_struct Try.underlying64 hk
  obtain ⟨c, hK, g⟩ := o64.arg hsz ht hd hv
  obtain ⟨_, _, e, h0, _, _, rfl, h1, _, _, rfl, ⟨A0, c0, rfl, l0, r0⟩, ⟨A1, c1, rfl, l1, r1⟩⟩ := hK
  rw [show _ = [Value.int .u8 c.1] from h0, show _ = [Value.int .u8 c.2.1] from h1] at e
  refine ⟨c, ⟨A0, c0, A1, c1, ?_, r0, l0, r1, l1⟩, g⟩
  have e' : cs.toList = _ := e
  cases cs
  exact congrArg (fun l => Value.agg ⟨l⟩) e'
end Go.Proofs.Ytdkjlbbbdjkhbaa.OpenK
