/- The first of some ranks is the first one than which none is better: for every list of bytes, where what is read is of bulk at most 1048576 (the second form). -/
import Derived.Test.YtiaageolmkplbaaRows
import Derived.Test.YtiaageolmkplbaaRnkH
import Derived.Test.YtiaageolmkplbaaOpenR
import Derived.WalkKit
import Derived.ProofKit
import Derived.OpenShut
import Derived.ShutString
import Derived.ChangeOld
import Derived.Below
import Derived.SizedLaws
import Derived.JoinedCond
import Derived.Carry
namespace Go.Proofs.Ytiaageolmkplbaa.rankFirst
open Go.ChangeShapes Go.WideShapes Go.ChangeAt Go.RowKit
open Go.ChangeMaps (open_string shut_string)
set_option linter.unusedVariables false
theorem own : ownKnob Try.prog.godebug = none := by kernel_rfl
theorem laidOut : laidOutB Try.prog = true := by kernel_rfl
theorem bulk_pos {H : Type} : ∀ d : DataW H, 1 ≤ Rows.uptoBulk d
  | .lit (.string b) => by simp [Rows.uptoBulk]
  | .lit (.int _ _) => by simp [Rows.uptoBulk]
  | .lit (.bool _) => by simp [Rows.uptoBulk]
  | .lit (.float _ _) => by simp [Rows.uptoBulk]
  | .lit .nil => by simp [Rows.uptoBulk]
  | .nil => by simp [Rows.uptoBulk]
  | .ptr d => by simp [Rows.uptoBulk]
  | .slice e s => by simp [Rows.uptoBulk]
  | .agg p => by simp [Rows.uptoBulk]
  | .iface _ d => by simp [Rows.uptoBulk]
  | .map e => by simp [Rows.uptoBulk]
  | .held _ => by simp [Rows.uptoBulk]
theorem bulkAll_len {H : Type} : ∀ l : List (DataW H), l.length ≤ Rows.uptoBulkAll l
  | [] => Nat.zero_le _
  | d :: r => by
    have h1 := bulk_pos d
    have h2 := bulkAll_len r
    rw [Rows.uptoBulkAll, List.length_cons]
    omega
theorem bulk_slice {P : Program} {t e : TypeId} (hu : P.underlying t = some (.slice e)) {H : Type} {enc : TypeId × Value → H} {W : World} {base : Nat} {spare : Nat → Bool} {held : Bool} {A : Option Addr} {n c : Nat} {y : DataW H} {p : List MemPlace}
    (hv : DataW.Trod enc P W base spare held t (.slice A n c) y p) : n ≤ Rows.uptoBulk y := by
  obtain ⟨fuel, hf⟩ := hv
  rcases DataW.trod_slice hu hf with ⟨h1, h2⟩ | ⟨a, len, cap, elems, rest, m, h0, h1, h2, hb, hl, hm, hlen, hel, h3, h4⟩
  · have e1 : [Value.slice A n c] = [Value.slice none 0 0] := h1
    injection e1 with e1 _
    injection e1 with _ e1 _
    rw [e1]
    exact Nat.zero_le _
  · have e1 : [Value.slice A n c] = [Value.slice (some a) len cap] := h1
    injection e1 with e1 _
    injection e1 with _ e1 _
    have e2 : y = _ := congrArg Prod.fst h2
    rw [e2, e1]
    have := bulkAll_len (elems.map (·.1))
    rw [List.length_map] at this
    simp only [Rows.uptoBulk]
    omega
theorem w5 {H : Type} : ∀ (d : DataW H) (m : Nat), m ∈ d.weights Try.prog 5 → m ≤ Rows.uptoBulk d
  | .lit (.string b), m, h => by simp [DataW.weights] at h; simp only [Rows.uptoBulk]; omega
  | .lit (.int _ _), m, h => by simp [DataW.weights] at h
  | .lit (.bool _), m, h => by simp [DataW.weights] at h
  | .lit (.float _ _), m, h => by simp [DataW.weights] at h
  | .lit .nil, m, h => by simp [DataW.weights] at h
  | .nil, m, h => by simp [DataW.weights] at h
  | .ptr d, m, h => by simp [DataW.weights, Try.underlying5] at h
  | .slice e s, m, h => by simp [DataW.weights, Try.underlying5] at h
  | .agg p, m, h => by simp [DataW.weights, Try.underlying5] at h
  | .iface _ d, m, h => by simp [DataW.weights] at h
  | .map e, m, h => by simp [DataW.weights, Try.underlying5] at h
  | .held _, m, h => by simp [DataW.weights] at h
theorem w5all {H : Type} : ∀ (l : List (DataW H)) (m : Nat), m ∈ DataW.weightsAll Try.prog 5 l → m ≤ Rows.uptoBulkAll l
  | [], m, h => by simp [DataW.weightsAll] at h
  | d :: r, m, h => by
    rw [DataW.weightsAll, List.mem_append] at h
    rw [Rows.uptoBulkAll]
    rcases h with h | h
    · have := w5 d m h; omega
    · have := w5all r m h; omega
theorem w23 {H : Type} : ∀ (d : DataW H) (m : Nat), m ∈ d.weights Try.prog 23 → m ≤ Rows.uptoBulk d
  | .lit (.string b), m, h => by simp [DataW.weights] at h; simp only [Rows.uptoBulk]; omega
  | .lit (.int _ _), m, h => by simp [DataW.weights] at h
  | .lit (.bool _), m, h => by simp [DataW.weights] at h
  | .lit (.float _ _), m, h => by simp [DataW.weights] at h
  | .lit .nil, m, h => by simp [DataW.weights] at h
  | .nil, m, h => by simp [DataW.weights] at h
  | .ptr d, m, h => by simp [DataW.weights, Try.underlying23] at h
  | .slice e s, m, h => by
    rw [DataW.weights, Try.underlying23] at h
    dsimp only at h
    rw [OpenK.bytes5] at h
    have h1 := bulkAll_len e
    have h2 := bulkAll_len s
    simp only [Rows.uptoBulk]
    rcases List.mem_cons.1 h with h | h
    · omega
    · rcases List.mem_append.1 h with h | h
      · have := w5all e m h; omega
      · have := w5all s m h; omega
  | .agg p, m, h => by simp [DataW.weights, Try.underlying23] at h
  | .iface _ d, m, h => by simp [DataW.weights] at h
  | .map e, m, h => by simp [DataW.weights, Try.underlying23] at h
  | .held _, m, h => by simp [DataW.weights] at h
theorem sized {H : Type} {d : DataW H} (hb : Rows.uptoBulk d ≤ 1048576) : (DataW.weightsEach Try.prog [23] [d]).all (· ≤ reachBytes) = true := by
  rw [List.all_eq_true]
  intro m hm
  rw [DataW.weightsEach, List.mem_append] at hm
  rcases hm with hm | hm
  · have := w23 d m hm
    exact decide_eq_true (Nat.le_trans this (Nat.le_trans hb (by decide)))
  · simp [DataW.weightsEach] at hm
theorem short {H : Type} {d : DataW H} (hk : Rows.uptoSmall H [d] = true) : Rows.uptoBulk d ≤ 1048576 := by
  have h : Rows.uptoBulkAll [d] ≤ 1048576 := of_decide_eq_true hk
  simp only [Rows.uptoBulkAll] at h
  omega
theorem u8b {n : Int} (h : (Lit.int .u8 n).wf = true) : 0 ≤ n ∧ n ≤ 255 := by
  simp [Lit.wf, IntKind.min, IntKind.max, IntKind.signed, IntKind.bits] at h; omega
set_option maxRecDepth 100000 in
theorem lifted (os : Os) (started : os.Started) (H : Type) (enc : TypeId × Value → H) (F : Stop.Interp) :
    ReturnsInHanded {} Try.checked os 5 .any ((Rows.OpenSpec.upto Rows.rankFirstSpec).pre6 enc Try.prog Try.f5 Rows.rankFirstUptoRow.domain false) (((Rows.OpenSpec.upto Rows.rankFirstSpec).at F).post enc Try.prog Try.f5 false true false false) := by
  refine returnsInHanded_of_cond (C := Try.checked) (s := Rows.OpenSpec.upto Rows.rankFirstSpec) (k := Rows.uptoSmall) rfl own started (by kernel_rfl) Try.func5
    (OpenSpec.witness (enc := enc) (C := Try.checked) (s := Rows.OpenSpec.upto Rows.rankFirstSpec) (k := Rows.uptoSmall) rfl false ⟨#[], #[.slice none 0 0], []⟩ 8 (by kernel_rfl) (by kernel_rfl) (by kernel_rfl)
      (x := ([.nil], [], [])) (by kernel_rfl) rfl (by kernel_rfl)) ?_
  intro W base args ds gs before hval0 hW hsz0 hk _
  have hval : ∀ (j : Nat) t v, Try.f5.params[j]? = some t → args[j]? = some v → Value.okWide Try.prog W .any base t v := hval0
  have hW' := hW
  obtain ⟨p, q, hA0, hV, rfl, hfz, hnd⟩ := hW
  have hA : DataW.TrodAll enc Try.prog W 0 (fun _ => true) true Try.f5.params.toList args.toList ds p := hA0
  rw [Try.params5] at hA hval
  obtain ⟨v0, vs0, d0, ds0, p0, q0, hargs, rfl, rfl, h0, r0⟩ := trodAll_cons hA
  obtain ⟨rfl, rfl, rfl⟩ := trodAll_nil r0
  obtain rfl : args = #[v0] := by cases args; simp_all
  obtain ⟨rfl, rfl⟩ := trodVars_none hV
  have k0 := h0
  have lt0 : ∀ x ∈ p0, x.block < W.heap.size := by obtain ⟨m, hm⟩ := k0; exact DataW.trod_lt m _ _ _ hm
  simp only [List.append_nil] at hk
  have hb := short hk
  obtain ⟨A0, c0, l0, rfl, R0, L0, G0⟩ := OpenK.slice_arg OpenK.o23 Try.underlying23 (sized hb) (j := 0) rfl rfl (hval 0 23 v0 rfl rfl) h0
  have hl := bulk_slice Try.underlying23 h0
  clear hA0 hval0
  refine (Hand.rankFirst_any A0 c0 l0 W R0 (by omega) (fun x hx => u8b (G0.2 x hx))).mono fun e W' ⟨he, bel⟩ => ?_
  subst he
  exact ⟨_, rfl, _, _, _, [], _, [], hW', trodAll_mk1 (shut_bool Try.underlying4 _), (trodAll_cons_mk (Below.trod laidOut (by kernel_rfl) (of_decide_eq_true (by kernel_rfl)) k0 bel lt0) trodAll_mk0), rfl, bel.frame _, fun h => by cases h⟩
theorem proved : Rows.RankFirstUptoSaid :=
  OpenClaim.holds_of_cond 5 Try.f5 rfl rfl rfl rfl rfl rfl rfl ⟨rfl, rfl, rfl, rfl, rfl⟩ rfl rfl rfl rfl rfl (by kernel_rfl) Try.func5 (by kernel_rfl)
    (of_decide_eq_true (by kernel_rfl)) (by unfold Func.isWrapper; first | (rw [if_pos (by decide +kernel)]; kernel_rfl) | (rw [if_neg (by decide +kernel)]; exact ⟨rfl, rfl⟩))
    (fun os started H enc _ F => lifted os started H enc F)
#print axioms proved
end Go.Proofs.Ytiaageolmkplbaa.rankFirst
namespace Go.Proofs.Ytiaageolmkplbaa
/-- The row, under a short name, for the claim. -/
theorem rankFirst_holds : Rows.RankFirstUptoSaid := rankFirst.proved
end Go.Proofs.Ytiaageolmkplbaa
