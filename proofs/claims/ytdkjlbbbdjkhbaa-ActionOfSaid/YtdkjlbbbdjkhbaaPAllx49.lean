-- Written by a program of this session (wip/tools/drive.py over the kit's printer): functions, contracts and rows (All).
import Derived.Test.YtdkjlbbbdjkhbaaPAllx0
import Derived.Test.YtdkjlbbbdjkhbaaPAllx25
import Derived.Test.YtdkjlbbbdjkhbaaPAllx34
import Derived.Test.YtdkjlbbbdjkhbaaPAllx38
import Derived.Test.YtdkjlbbbdjkhbaaPAllx44
import Derived.Test.YtdkjlbbbdjkhbaaPAllx45
import Derived.Test.YtdkjlbbbdjkhbaaPAllx46
import Derived.Test.YtdkjlbbbdjkhbaaPAllx48
namespace Go.Proofs.Ytdkjlbbbdjkhbaa.PAll
open Go.RowKit Go.Proofs.YtdkjlbbbdjkhbaaW.PrintWords Go.Proofs.YtdkjlbbbdjkhbaaW.PrintLast Go.Proofs.YtdkjlbbbdjkhbaaW.PrintMore
attribute [local go_sem] max2_int min2_int max_two min_two max_three min_three max_four min_four   -- for this text's walks alone
open Go.Proofs.Ytdkjlbbbdjkhbaa.Hand
set_option linter.unusedVariables false
set_option linter.unusedSimpArgs false

/-! ### bolterlaw14_ActionOf: function 4 -/
mutual
def bolterlaw14_ActionOf.j0 : Nat → List (S86) → Bool → Option (Bool)
  | 0, _, _ => none
  | k + 1, x0, x36 => if x36 = true then (some false) else ((bolterlaw05_Records.f k x0 6).bind fun t809 => ((action_Of.f k t809).bind fun bt812 => (bolterlaw14_ActionOf.l0 k t809 bt812.2.2.2.2 ((t809.length : Int) == 0) t809 (t809.length : Int) 0 bt812.1 bt812.2.1 bt812.2.2.1 bt812.2.2.2.1)))
def bolterlaw14_ActionOf.l0 : Nat → List (S43) → Bool → Bool → List (S43) → Int → Int → Int → ByteArray → Bool → List (S43) → Option (Bool)
  | 0, _, _, _, _, _, _, _, _, _, _ => none
  | k + 1, x10, x12, x13, x47, x48, x49, x820000, x820001, x820002, x820003 => if x49 < x48 then (if 0 ≤ x49 then (if x49 < (x47.length : Int) then (if x13 = true then (bolterlaw14_ActionOf.l0 k x10 x12 true x47 x48 (wrap64 (x49 + 1)) x820000 x820001 x820002 x820003) else (if ((rd_T43 x47 x49).f1) = 6 then (bolterlaw14_ActionOf.l0 k x10 x12 true x47 x48 (wrap64 (x49 + 1)) x820000 x820001 x820002 x820003) else (if ((rd_T43 x47 x49).f1) = 2 then (bolterlaw14_ActionOf.l0 k x10 x12 true x47 x48 (wrap64 (x49 + 1)) x820000 x820001 x820002 x820003) else (if ((rd_T43 x47 x49).f1) = 5 then (bolterlaw14_ActionOf.l0 k x10 x12 (decide ((x10.length : Int) > 1)) x47 x48 (wrap64 (x49 + 1)) x820000 x820001 x820002 x820003) else (bolterlaw14_ActionOf.l0 k x10 x12 false x47 x48 (wrap64 (x49 + 1)) x820000 x820001 x820002 x820003))))) else (none)) else (none)) else (if x13 = true then (if x12 = true then (some false) else ((action_Same.f k x820000 x820001 x820002 x820003 0 (⟨#[]⟩ : ByteArray) false ([] : List (S43))).bind fun t822 => (some t822))) else (if 0 < (x10.length : Int) then (if ((rd_T43 x10 0).f1) = 5 then (if x12 = true then ((bolterlaw14_of.f k ((rd_T43 x10 0).f3)).bind fun bt825 => ((action_Same.f k x820000 x820001 x820002 x820003 bt825.1 bt825.2.1 bt825.2.2.1 bt825.2.2.2).bind fun t831 => (some t831))) else (some false)) else (if x12 = true then (if x820000 = 8 then (if x820001.toList = ([] : List UInt8) then (if x820002 = true then (some false) else ((bolterlaw05_SameRecords.f k x820003 x10).bind fun t832 => (some t832))) else (some false)) else (some false)) else (some false))) else (none)))
end
def bolterlaw14_ActionOf.f (k : Nat) (l0 : List (S86)) (a1 : Int) (l2 : List Int) : Option (Bool) := (bolterlaw14_awake.f k).bind fun t789 => (if t789 = true then ((bolterlaw14_Target.f k a1 l2).bind fun t790 => ((action_Of.f k (([(⟨(⟨#[]⟩ : ByteArray), 5, 0, t790⟩ : S43)] : List (S43)))).bind fun bt794 => (if bt794.2.2.2.2 = true then ((bolterlaw14_of.f k t790).bind fun bt802 => ((action_Same.f k bt794.1 bt794.2.1 bt794.2.2.1 bt794.2.2.2.1 bt802.1 bt802.2.1 bt802.2.2.1 bt802.2.2.2).bind fun t808 => (bolterlaw14_ActionOf.j0 k l0 (!t808)))) else (bolterlaw14_ActionOf.j0 k l0 true)))) else (some false))
theorem bolterlaw14_ActionOf.mono_l : ∀ k, (∀ y0 y1, LeO (bolterlaw14_ActionOf.j0 k y0 y1) (bolterlaw14_ActionOf.j0 (k + 1) y0 y1)) ∧ (∀ y0 y1 y2 y3 y4 y5 y6 y7 y8 y9, LeO (bolterlaw14_ActionOf.l0 k y0 y1 y2 y3 y4 y5 y6 y7 y8 y9) (bolterlaw14_ActionOf.l0 (k + 1) y0 y1 y2 y3 y4 y5 y6 y7 y8 y9))
  | 0 => ⟨fun _ _ r h => by simp [bolterlaw14_ActionOf.j0] at h, fun _ _ _ _ _ _ _ _ _ _ r h => by simp [bolterlaw14_ActionOf.l0] at h⟩
  | k + 1 => by
    obtain ⟨ih0, ih1⟩ := bolterlaw14_ActionOf.mono_l k
    refine ⟨?_, ?_⟩
    · intro y0 y1
      unfold bolterlaw14_ActionOf.j0
      repeat' first
      | (with_reducible exact ih0 _ _)
      | (with_reducible exact ih1 _ _ _ _ _ _ _ _ _ _)
      | (with_reducible exact action_Of.mono _ _)
      | (with_reducible exact action_Same.mono _ _ _ _ _ _ _ _ _)
      | (with_reducible exact bolterlaw05_Records.mono _ _ _)
      | (with_reducible exact bolterlaw05_SameRecords.mono _ _ _)
      | (with_reducible exact bolterlaw14_Target.mono _ _ _)
      | (with_reducible exact bolterlaw14_awake.mono _)
      | (with_reducible exact bolterlaw14_of.mono _ _)
      | (with_reducible exact LeO.refl _)
      | (with_reducible exact LeO.none _)
      | (with_reducible refine LeO.ite ?_ ?_)
      | (with_reducible refine LeO.bind ?_ (fun _ => ?_))
      | exact ih0 _ _
      | exact ih1 _ _ _ _ _ _ _ _ _ _
      | exact action_Of.mono _ _
      | exact action_Same.mono _ _ _ _ _ _ _ _ _
      | exact bolterlaw05_Records.mono _ _ _
      | exact bolterlaw05_SameRecords.mono _ _ _
      | exact bolterlaw14_Target.mono _ _ _
      | exact bolterlaw14_awake.mono _
      | exact bolterlaw14_of.mono _ _
      | exact LeO.none _
      | refine LeO.ite ?_ ?_
      | refine LeO.bind ?_ (fun _ => ?_)
    · intro y0 y1 y2 y3 y4 y5 y6 y7 y8 y9
      unfold bolterlaw14_ActionOf.l0
      repeat' first
      | (with_reducible exact ih0 _ _)
      | (with_reducible exact ih1 _ _ _ _ _ _ _ _ _ _)
      | (with_reducible exact action_Of.mono _ _)
      | (with_reducible exact action_Same.mono _ _ _ _ _ _ _ _ _)
      | (with_reducible exact bolterlaw05_Records.mono _ _ _)
      | (with_reducible exact bolterlaw05_SameRecords.mono _ _ _)
      | (with_reducible exact bolterlaw14_Target.mono _ _ _)
      | (with_reducible exact bolterlaw14_awake.mono _)
      | (with_reducible exact bolterlaw14_of.mono _ _)
      | (with_reducible exact LeO.refl _)
      | (with_reducible exact LeO.none _)
      | (with_reducible refine LeO.ite ?_ ?_)
      | (with_reducible refine LeO.bind ?_ (fun _ => ?_))
      | exact ih0 _ _
      | exact ih1 _ _ _ _ _ _ _ _ _ _
      | exact action_Of.mono _ _
      | exact action_Same.mono _ _ _ _ _ _ _ _ _
      | exact bolterlaw05_Records.mono _ _ _
      | exact bolterlaw05_SameRecords.mono _ _ _
      | exact bolterlaw14_Target.mono _ _ _
      | exact bolterlaw14_awake.mono _
      | exact bolterlaw14_of.mono _ _
      | exact LeO.none _
      | refine LeO.ite ?_ ?_
      | refine LeO.bind ?_ (fun _ => ?_)
theorem bolterlaw14_ActionOf.mono : ∀ a0 a1 a2 k, LeO (bolterlaw14_ActionOf.f k a0 a1 a2) (bolterlaw14_ActionOf.f (k + 1) a0 a1 a2) := by
  intro a0 a1 a2 k
  obtain ⟨ih0, ih1⟩ := bolterlaw14_ActionOf.mono_l k
  unfold bolterlaw14_ActionOf.f
  repeat' first
      | (with_reducible exact ih0 _ _)
      | (with_reducible exact ih1 _ _ _ _ _ _ _ _ _ _)
      | (with_reducible exact action_Of.mono _ _)
      | (with_reducible exact action_Same.mono _ _ _ _ _ _ _ _ _)
      | (with_reducible exact bolterlaw05_Records.mono _ _ _)
      | (with_reducible exact bolterlaw05_SameRecords.mono _ _ _)
      | (with_reducible exact bolterlaw14_Target.mono _ _ _)
      | (with_reducible exact bolterlaw14_awake.mono _)
      | (with_reducible exact bolterlaw14_of.mono _ _)
      | (with_reducible exact LeO.refl _)
      | (with_reducible exact LeO.none _)
      | (with_reducible refine LeO.ite ?_ ?_)
      | (with_reducible refine LeO.bind ?_ (fun _ => ?_))
      | exact ih0 _ _
      | exact ih1 _ _ _ _ _ _ _ _ _ _
      | exact action_Of.mono _ _
      | exact action_Same.mono _ _ _ _ _ _ _ _ _
      | exact bolterlaw05_Records.mono _ _ _
      | exact bolterlaw05_SameRecords.mono _ _ _
      | exact bolterlaw14_Target.mono _ _ _
      | exact bolterlaw14_awake.mono _
      | exact bolterlaw14_of.mono _ _
      | exact LeO.none _
      | refine LeO.ite ?_ ?_
      | refine LeO.bind ?_ (fun _ => ?_)
def bolterlaw14_ActionOf.T5 : Bool × List (List Nat × List Nat) := (true, [([], []), ([0], [0]), ([1], [1]), ([2], [2]), ([2], [2]), ([4, 2, 2], [2, 4]), ([3, 5, 5, 2], [2, 3, 5]), ([6, 2], [2, 6]), ([2, 7], [2, 7])])
def bolterlaw14_ActionOf.B5 : List Nat := [0, 1, 3, 7, 7, 23, 63, 127, 255]
theorem bolterlaw14_ActionOf.tab5 : rtab .any (opsOf Try.f4 5) = bolterlaw14_ActionOf.T5 := by kernel_rfl
theorem bolterlaw14_ActionOf.bits5 : waitsOk bolterlaw14_ActionOf.T5.2 bolterlaw14_ActionOf.B5 = true := by kernel_rfl
def bolterlaw14_ActionOf.T18 : Bool × List (List Nat × List Nat) := (true, [([], []), ([0], [0]), ([1], [1]), ([1], [1]), ([3, 1], [1, 3]), ([4, 1], [1, 4]), ([5, 1], [1, 5]), ([6, 1, 1], [1, 6]), ([2, 7, 7, 1], [1, 2, 7]), ([1, 8], [1, 8]), ([9, 8, 0, 1, 2, 3, 4, 5, 6, 7, 8, 9], [9])])
def bolterlaw14_ActionOf.B18 : List Nat := [0, 1, 3, 3, 11, 27, 59, 123, 255, 511, 1023]
theorem bolterlaw14_ActionOf.tab18 : rtab .any (opsOf Try.f4 18) = bolterlaw14_ActionOf.T18 := by kernel_rfl
theorem bolterlaw14_ActionOf.bits18 : waitsOk bolterlaw14_ActionOf.T18.2 bolterlaw14_ActionOf.B18 = true := by kernel_rfl
set_option maxHeartbeats 8000000 in
set_option maxRecDepth 100000 in
theorem bolterlaw14_ActionOf.calls (k : Nat) (A0 : Option Addr) (c0 : Nat) (l0 : List (S86)) (a1 : Int) (A2 : Option Addr) (c2 : Nat) (l2 : List Int) (r : Bool) (w : World) (hr0 : Kd.C k86 w A0 l0.length l0) (hc0 : l0.length ≤ c0) (hr2 : Kd.C (Kd.int .u8) w A2 l2.length l2) (hc2 : l2.length ≤ c2) (h : bolterlaw14_ActionOf.f k l0 a1 l2 = some r) (hT : r = true) :
    Calls Try.prog 4 #[.slice A0 l0.length c0, .int .u8 a1, .slice A2 l2.length c2] w fun e w' => e = .returned (.bool r) ∧ Below w.heap.size w w' := by
  have hu43 := Try.underlying43
  have hu28 := Try.underlying28
  have HR0 := Aside0.mk hr0
  have HC0 := Aside0.mk hc0
  clear hr0 hc0
  have HR2 := Aside0.mk hr2
  have HC2 := Aside0.mk hc2
  clear hr2 hc2
  have HB := Aside0.mk (Below.refl w.heap.size w)
  have H : ((bolterlaw14_awake.f k).bind fun t789 => (if t789 = true then ((bolterlaw14_Target.f k a1 l2).bind fun t790 => ((action_Of.f k (([(⟨(⟨#[]⟩ : ByteArray), 5, 0, t790⟩ : S43)] : List (S43)))).bind fun bt794 => (if bt794.2.2.2.2 = true then ((bolterlaw14_of.f k t790).bind fun bt802 => ((action_Same.f k bt794.1 bt794.2.1 bt794.2.2.1 bt794.2.2.2.1 bt802.1 bt802.2.1 bt802.2.2.1 bt802.2.2.2).bind fun t808 => (bolterlaw14_ActionOf.j0 k l0 (!t808)))) else (bolterlaw14_ActionOf.j0 k l0 true)))) else (some false))) = some r := h
  clear h
  replace H := Option.bind_eq_some_iff.mp H
  obtain ⟨t789, A40, H⟩ := H
  replace H : (if t789 = true then ((bolterlaw14_Target.f k a1 l2).bind fun t790 => ((action_Of.f k (([(⟨(⟨#[]⟩ : ByteArray), 5, 0, t790⟩ : S43)] : List (S43)))).bind fun bt794 => (if bt794.2.2.2.2 = true then ((bolterlaw14_of.f k t790).bind fun bt802 => ((action_Same.f k bt794.1 bt794.2.1 bt794.2.2.1 bt794.2.2.2.1 bt802.1 bt802.2.1 bt802.2.2.1 bt802.2.2.2).bind fun t808 => (bolterlaw14_ActionOf.j0 k l0 (!t808)))) else (bolterlaw14_ActionOf.j0 k l0 true)))) else (some false)) = some r := H
  have A4 := Aside0.mk A40
  clear A40
  by_cases c5 : t789 = true
  · subst c5
    have H1 : ((bolterlaw14_Target.f k a1 l2).bind fun t790 => ((action_Of.f k (([(⟨(⟨#[]⟩ : ByteArray), 5, 0, t790⟩ : S43)] : List (S43)))).bind fun bt794 => (if bt794.2.2.2.2 = true then ((bolterlaw14_of.f k t790).bind fun bt802 => ((action_Same.f k bt794.1 bt794.2.1 bt794.2.2.1 bt794.2.2.2.1 bt802.1 bt802.2.1 bt802.2.2.1 bt802.2.2.2).bind fun t808 => (bolterlaw14_ActionOf.j0 k l0 (!t808)))) else (bolterlaw14_ActionOf.j0 k l0 true)))) = some r := by rw [if_pos rfl] at H; exact H
    clear H
    have H := H1
    clear H1
    replace H := Option.bind_eq_some_iff.mp H
    obtain ⟨t790, A60, H⟩ := H
    replace H : ((action_Of.f k (([(⟨(⟨#[]⟩ : ByteArray), 5, 0, t790⟩ : S43)] : List (S43)))).bind fun bt794 => (if bt794.2.2.2.2 = true then ((bolterlaw14_of.f k t790).bind fun bt802 => ((action_Same.f k bt794.1 bt794.2.1 bt794.2.2.1 bt794.2.2.2.1 bt802.1 bt802.2.1 bt802.2.2.1 bt802.2.2.2).bind fun t808 => (bolterlaw14_ActionOf.j0 k l0 (!t808)))) else (bolterlaw14_ActionOf.j0 k l0 true))) = some r := H
    have A6 := Aside0.mk A60
    clear A60
    obtain ⟨y791, hy791⟩ : ∃ y_ : List (S43), y_ = (([(⟨(⟨#[]⟩ : ByteArray), 5, 0, t790⟩ : S43)] : List (S43))) := ⟨_, rfl⟩
    replace H : ((action_Of.f k y791).bind fun bt794 => (if bt794.2.2.2.2 = true then ((bolterlaw14_of.f k t790).bind fun bt802 => ((action_Same.f k bt794.1 bt794.2.1 bt794.2.2.1 bt794.2.2.2.1 bt802.1 bt802.2.1 bt802.2.2.1 bt802.2.2.2).bind fun t808 => (bolterlaw14_ActionOf.j0 k l0 (!t808)))) else (bolterlaw14_ActionOf.j0 k l0 true))) = some r := by first | (rw [hy791]; with_reducible exact H) | (have H2_ := (Option.bind_some _ _).symm.trans H; rw [hy791]; with_reducible exact H2_) | (have H2_ := (Option.bind_some _ _).symm.trans H; with_reducible exact H2_) | with_reducible exact H | (rw [hy791]; exact H) | exact H
    have Ny791 := Aside0.mk hy791
    clear hy791
    replace H := Option.bind_eq_some_iff.mp H
    obtain ⟨⟨t794, t795, t796, t797, t800⟩, A70, H⟩ := H
    replace H : (if t800 = true then ((bolterlaw14_of.f k t790).bind fun bt802 => ((action_Same.f k t794 t795 t796 t797 bt802.1 bt802.2.1 bt802.2.2.1 bt802.2.2.2).bind fun t808 => (bolterlaw14_ActionOf.j0 k l0 (!t808)))) else (bolterlaw14_ActionOf.j0 k l0 true)) = some r := H
    have A7 := Aside0.mk A70
    clear A70
    have HC8 := Aside0.mk H
    clear H
    go_enter Try.func4, Try.ntmps4
    go_upto_region 5 with (first | ((with_reducible refine gate_callee (f := 13) rfl ?_); refine goesL_ (some 16) rfl rfl Try.func13 (by kernel_rfl) rfl #[] rfl (by (try simp only [List.map_toArray, List.map_cons, List.map_nil]); first | done | rfl | (simp only [List.length_drop, List.length_take]; rfl)) ?_; (with_reducible refine (bolterlaw14_awake.calls k  true _ A4.out rfl).mono ?_); rintro e w9 ⟨rfl, hb⟩; refine ⟨_, rfl, ?_⟩; have n0_ := Aside0.mk (below_step (by repeat (first | (with_reducible first | exact HB.out | apply below_alloc | apply pw_below_drewN | apply below_drew1) | exact HB.out)) hb); clear HB; have HB := n0_; clear n0_; (try clear hb); (try clear hb2); (try clear hk); (try clear hi)) | ((with_reducible refine gate_callee (f := 15) rfl ?_); refine goesL_ (some 20) rfl rfl Try.func15 (by kernel_rfl) rfl #[.int .u8 a1, .slice A2 l2.length c2] rfl (by (try simp only [List.map_toArray, List.map_cons, List.map_nil]); first | done | rfl | (simp only [List.length_drop, List.length_take]; rfl)) ?_; (with_reducible refine (bolterlaw14_Target.calls k a1 _ _ l2 t790 _ ?side1 ?side2 A6.out).mono ?_); (case side1 => repeat (first | exact (Kd.C_below HR2.out HB.out) | (with_reducible refine Kd.C_alloc ?_ _) | (with_reducible refine Kd.C_drewN ?_ _) | (with_reducible refine Kd.C_drew ?_))); (case side2 => exact HC2.out); rintro e w10 ⟨rfl, hb⟩; refine ⟨_, rfl, ?_⟩; have n0_ := Aside0.mk (below_step (by repeat (first | (with_reducible first | exact HB.out | apply below_alloc | apply pw_below_drewN | apply below_drew1) | exact HB.out)) hb); clear HB; have HB := n0_; clear n0_; (try clear hb); (try clear hb2); (try clear hk); (try clear hi)) | ((with_reducible refine gate_dst (N := 24) rfl ?_); (try (refine gate_guard (by rfl) ?_; dsimp only)); refine Kd.R_lit k43 _ 43 ?hg (N := 24) ?hd (xs := ([(⟨(⟨#[]⟩ : ByteArray), 5, 0, t790⟩ : S43)] : List (S43))) (inner := [.string (⟨#[]⟩ : ByteArray), .int .u16 5, .int .u32 0, .string t790]) (ok := fun _ => True) (okp := fun _ => True) ?hr ?hp (fun _ hk => hk) trivial (Below.refl _ _) (Nat.le_refl _) (by simp) ?_; (case hd => rfl); (case hg => rfl); (case hr => first | (go_simp; done) | (go_simp; rfl)); (case hp => exact (Reps.c4 (show Kd.M k43 _ _ _ (⟨(⟨#[]⟩ : ByteArray), 5, 0, t790⟩ : S43) [.string (⟨#[]⟩ : ByteArray), .int .u16 5, .int .u32 0, .string t790] from (k43_mkM _ _ _ (⟨(⟨#[]⟩ : ByteArray), 5, 0, t790⟩ : S43) )) (Reps.none _ _))); intro v792 w11 ho12 hb hg_ hnew_; clear hg_ hnew_; (first | rw [← Ny791.out] at ho12 | (simp only [Int.reduceToNat] at ho12; rw [← Ny791.out] at ho12)); have n0_ := Aside0.mk (Kd.R_lower ho12 (below_size (by repeat (first | (with_reducible first | exact HB.out | apply below_alloc | apply pw_below_drewN | apply below_drew1) | exact HB.out)))); have n1_ := Aside0.mk (below_step (by repeat (first | (with_reducible first | exact HB.out | apply below_alloc | apply pw_below_drewN | apply below_drew1) | exact HB.out)) hb); clear HB; have HO793 := n0_; have HB := n1_; clear n0_ n1_; clear hb ho12; obtain ⟨Ao13, co13, eo13⟩ := Kd.R_slice HO793.out; subst eo13) | ((with_reducible refine gate_callee (f := 19) rfl ?_); refine goesL_ (some 25) rfl rfl Try.func19 (by kernel_rfl) rfl #[.slice Ao13 y791.length co13] rfl (by (try simp only [List.map_toArray, List.map_cons, List.map_nil]); first | done | rfl | (simp only [List.length_drop, List.length_take]; rfl)) ?_; (with_reducible refine (action_Of.calls k _ _ y791 t794 t795 t796 t797 t800 _ ?side1 ?side2 A7.out).mono ?_); (case side1 => repeat (first | exact (Kd.R_reads' HO793.out).2.2 | (with_reducible refine Kd.C_alloc ?_ _) | (with_reducible refine Kd.C_drewN ?_ _) | (with_reducible refine Kd.C_drew ?_))); (case side2 => exact (Kd.R_reads' HO793.out).2.1); rintro e w14 ⟨v798, rfl, ho0, hb⟩; refine ⟨_, rfl, ?_⟩; have n0_ := Aside0.mk (Kd.R_elder' (by (with_reducible repeat (first | apply Kd.R_alloc | apply Kd.R_drewN | apply Kd.R_drew)); exact HO793.out) (Kd.R_base ho0) hb); have n1_ := Aside0.mk (Kd.R_lower (Kd.R_new' ho0 (Kd.R_lt (by (with_reducible repeat (first | apply Kd.R_alloc | apply Kd.R_drewN | apply Kd.R_drew)); exact HO793.out))) (below_size (by repeat (first | (with_reducible first | exact HB.out | apply below_alloc | apply pw_below_drewN | apply below_drew1) | exact HB.out)))); have n2_ := Aside0.mk (below_step (by repeat (first | (with_reducible first | exact HB.out | apply below_alloc | apply pw_below_drewN | apply below_drew1) | exact HB.out)) hb); clear HO793; clear HB; have HO793 := n0_; have HO799 := n1_; have HB := n2_; clear n0_ n1_ n2_; (try clear hb); (try clear hb2); (try clear hk); (try clear hi); (try clear ho0)) | ((with_reducible refine gate_dst (N := 8) rfl ?_); (try (refine gate_guard (by rfl) ?_; dsimp only)); refine box_event ?hg (N := 8) ?hd (cs := #[.int .i64 0, .string (⟨#[]⟩ : ByteArray), .bool false, .slice none 0 0]) (t := 28) ?hr ?_; (case hd => rfl); (case hg => rfl); (case hr => first | (go_simp; done) | (go_simp; rfl)); intro gb801 hg w15 hbox hb; have n0_ := Aside0.mk (Kd.R_below (by (with_reducible repeat (first | apply Kd.R_alloc | apply Kd.R_drewN | apply Kd.R_drew)); exact HO793.out) hb); have n1_ := Aside0.mk (Kd.R_below (by (with_reducible repeat (first | apply Kd.R_alloc | apply Kd.R_drewN | apply Kd.R_drew)); exact HO799.out) hb); have n2_ := Aside0.mk (below_step (by repeat (first | (with_reducible first | exact HB.out | apply below_alloc | apply pw_below_drewN | apply below_drew1) | exact HB.out)) hb); have n3_ := Aside0.mk (hbox); have n4_ := Aside0.mk ((by rw [hg]; exact (below_size (by repeat (first | (with_reducible first | exact HB.out | apply below_alloc | apply pw_below_drewN | apply below_drew1) | exact HB.out))) : w.heap.size ≤ gb801)); have n5_ := Aside0.mk ((by rw [hg]; exact (below_size (by repeat (first | (with_reducible first | exact HB.out | apply below_alloc | apply pw_below_drewN | apply below_drew1) | exact HB.out))) : w.heap.size ≤ gb801)); clear HO793; clear HO799; clear HB; have HO793 := n0_; have HO799 := n1_; have HB := n2_; have BK801 := n3_; have GW801 := n4_; have GE801 := n5_; clear n0_ n1_ n2_ n3_ n4_ n5_; clear hb hbox hg; have hcz16_0 : w15.cell? ⟨gb801, 0, none⟩ = some (.int .i64 0) := (blk_cell BK801.out 0).trans rfl; have hcz16_1 : w15.cell? ⟨gb801, 1, none⟩ = some (.string (⟨#[]⟩ : ByteArray)) := (blk_cell BK801.out 1).trans rfl; have hcz16_2 : w15.cell? ⟨gb801, 2, none⟩ = some (.bool false) := (blk_cell BK801.out 2).trans rfl; have hcz16_3 : w15.cell? ⟨gb801, 3, none⟩ = some (.slice none 0 0) := (blk_cell BK801.out 3).trans rfl; have hfz16_0 := blk_frozen BK801.out 0; have hfz16_1 := blk_frozen BK801.out 1; have hfz16_2 := blk_frozen BK801.out 2; have hfz16_3 := blk_frozen BK801.out 3; obtain ⟨Ao17, co17, eo17⟩ := Kd.R_slice HO799.out; subst eo17))
    (try simp only [Act.put, List.setIfInBounds_toArray, List.set_cons_zero, List.set_cons_succ])
    go_cut [36] (fun v36 wc => ∃ (kq : Nat) (x36_7 : Bool), v36 = .bool x36_7 ∧ Aside0 (bolterlaw14_ActionOf.j0 kq l0 x36_7 = some r) ∧ Aside0 (kq ≤ k) ∧ Aside0 (Kd.R k43 43 wc w.heap.size (fun _ => True) (.slice Ao17 t797.length co17) t797) ∧ Aside0 (wc.heap[gb801]? = some (.cells #[.int .i64 t794, .string t795, .bool t796, (.slice Ao17 t797.length co17)] 28 (0, 0))) ∧ Aside0 (Below w.heap.size w wc))
    case first =>
      have H := HC8.out
      clear HC8
      by_cases c18 : t800 = true
      · subst c18
        have H1 : ((bolterlaw14_of.f k t790).bind fun bt802 => ((action_Same.f k t794 t795 t796 t797 bt802.1 bt802.2.1 bt802.2.2.1 bt802.2.2.2).bind fun t808 => (bolterlaw14_ActionOf.j0 k l0 (!t808)))) = some r := by rw [if_pos rfl] at H; exact H
        clear H
        have H := H1
        clear H1
        replace H := Option.bind_eq_some_iff.mp H
        obtain ⟨⟨t802, t803, t804, t805⟩, A190, H⟩ := H
        replace H : ((action_Same.f k t794 t795 t796 t797 t802 t803 t804 t805).bind fun t808 => (bolterlaw14_ActionOf.j0 k l0 (!t808))) = some r := H
        have A19 := Aside0.mk A190
        clear A190
        replace H := Option.bind_eq_some_iff.mp H
        obtain ⟨t808, A200, H⟩ := H
        replace H : (bolterlaw14_ActionOf.j0 k l0 (!t808)) = some r := H
        have A20 := Aside0.mk A200
        clear A200
        have H' := Aside0.mk H
        clear H
        try go_wp2
        have n0_ : Aside0 (Kd.R k43 43 ((((w15.setCell ⟨gb801, 0, none⟩ (.int .i64 t794)).setCell ⟨gb801, 1, none⟩ (.string t795)).setCell ⟨gb801, 2, none⟩ (.bool t796)).setCell ⟨gb801, 3, none⟩ (.slice Ao17 t797.length co17)) w.heap.size (fun k_ => some k_ ≠ (.slice Ao17 t797.length co17 : Value).ownBlock) (.slice Ao13 y791.length co13) y791) := ⟨by (with_reducible repeat (first | apply Kd.R_alloc | apply Kd.R_drewN | apply Kd.R_drew)); exact Kd.R_mono (Kd.R_far (p := ⟨gb801, 3, none⟩) (Kd.R_far (p := ⟨gb801, 2, none⟩) (Kd.R_far (p := ⟨gb801, 1, none⟩) (Kd.R_far (p := ⟨gb801, 0, none⟩) (Kd.R_types HO793.out BK801.out (by decide)) (fun _ hk => hk.2) (.int .i64 t794)) (fun _ hk => hk.2) (.string t795)) (fun _ hk => hk.2) (.bool t796)) (fun _ hk => hk.2) (.slice Ao17 t797.length co17)) (fun _ hk => hk.1.2)⟩
        have n1_ : Aside0 (Kd.R k43 43 ((((w15.setCell ⟨gb801, 0, none⟩ (.int .i64 t794)).setCell ⟨gb801, 1, none⟩ (.string t795)).setCell ⟨gb801, 2, none⟩ (.bool t796)).setCell ⟨gb801, 3, none⟩ (.slice Ao17 t797.length co17)) w.heap.size (fun k_ => some k_ ≠ (.slice Ao13 y791.length co13 : Value).ownBlock) (.slice Ao17 t797.length co17) t797) := ⟨by (with_reducible repeat (first | apply Kd.R_alloc | apply Kd.R_drewN | apply Kd.R_drew)); exact Kd.R_mono (Kd.R_far (p := ⟨gb801, 3, none⟩) (Kd.R_far (p := ⟨gb801, 2, none⟩) (Kd.R_far (p := ⟨gb801, 1, none⟩) (Kd.R_far (p := ⟨gb801, 0, none⟩) (Kd.R_types HO799.out BK801.out (by decide)) (fun _ hk => hk.2) (.int .i64 t794)) (fun _ hk => hk.2) (.string t795)) (fun _ hk => hk.2) (.bool t796)) (fun _ hk => hk.2) (.slice Ao17 t797.length co17)) (fun _ hk => hk.1.2)⟩
        have n2_ : Aside0 (((((w15.setCell ⟨gb801, 0, none⟩ (.int .i64 t794)).setCell ⟨gb801, 1, none⟩ (.string t795)).setCell ⟨gb801, 2, none⟩ (.bool t796)).setCell ⟨gb801, 3, none⟩ (.slice Ao17 t797.length co17)).heap[gb801]? = some (.cells #[.int .i64 t794, .string t795, .bool t796, .slice Ao17 t797.length co17] 28 (0, 0))) := ⟨by (with_reducible repeat (first | refine blk_drewN ?_ _ | refine blk_drew ?_ | refine blk_alloc ?_ _)); refine blk_put (cs := #[.int .i64 t794, .string t795, .bool t796, .slice none 0 0]) ?_ 3 _ rfl; (with_reducible repeat (first | refine blk_drewN ?_ _ | refine blk_drew ?_ | refine blk_alloc ?_ _)); refine blk_put (cs := #[.int .i64 t794, .string t795, .bool false, .slice none 0 0]) ?_ 2 _ rfl; (with_reducible repeat (first | refine blk_drewN ?_ _ | refine blk_drew ?_ | refine blk_alloc ?_ _)); refine blk_put (cs := #[.int .i64 t794, .string (⟨#[]⟩ : ByteArray), .bool false, .slice none 0 0]) ?_ 1 _ rfl; (with_reducible repeat (first | refine blk_drewN ?_ _ | refine blk_drew ?_ | refine blk_alloc ?_ _)); refine blk_put (cs := #[.int .i64 0, .string (⟨#[]⟩ : ByteArray), .bool false, .slice none 0 0]) ?_ 0 _ rfl; (with_reducible repeat (first | refine blk_drewN ?_ _ | refine blk_drew ?_ | refine blk_alloc ?_ _)); exact BK801.out⟩
        have n3_ : Aside0 (Below w.heap.size w ((((w15.setCell ⟨gb801, 0, none⟩ (.int .i64 t794)).setCell ⟨gb801, 1, none⟩ (.string t795)).setCell ⟨gb801, 2, none⟩ (.bool t796)).setCell ⟨gb801, 3, none⟩ (.slice Ao17 t797.length co17))) := ⟨by repeat (first | (with_reducible first | exact HB.out | apply below_alloc | apply pw_below_drewN | apply below_drew1 | refine below_set ?_ GE801.out) | exact HB.out)⟩
        (try clear HO793)
        (try clear HO799)
        (try clear BK801)
        (try clear HB)
        generalize ((((w15.setCell ⟨gb801, 0, none⟩ (.int .i64 t794)).setCell ⟨gb801, 1, none⟩ (.string t795)).setCell ⟨gb801, 2, none⟩ (.bool t796)).setCell ⟨gb801, 3, none⟩ (.slice Ao17 t797.length co17)) = w21 at n0_ n1_ n2_ n3_ ⊢
        have HO793 := n0_
        have HO799 := n1_
        have BK801 := n2_
        have HB := n3_
        clear n0_ n1_ n2_ n3_
        have n0_ := Aside0.mk (Kd.R_drew HO793.out)
        have n1_ := Aside0.mk (Kd.R_drew HO799.out)
        have n2_ := Aside0.mk (blk_drew BK801.out)
        have n3_ := Aside0.mk (below_drew1 HB.out)
        clear HO793
        clear HO799
        clear BK801
        clear HB
        have HO793 := n0_
        have HO799 := n1_
        have BK801 := n2_
        have HB := n3_
        clear n0_ n1_ n2_ n3_
        refine start_ (n := 9) (S := fun w' => w'.cell? ⟨gb801, 0, none⟩ = some (.int .i64 t794) ∧ w'.cell? ⟨gb801, 1, none⟩ = some (.string t795) ∧ w'.cell? ⟨gb801, 2, none⟩ = some (.bool t796) ∧ w'.cell? ⟨gb801, 3, none⟩ = some (.slice Ao17 t797.length co17)) (ds := []) #[false, false, false, false, false, false, false, false, false] (by kernel_rfl) rfl rfl ⟨(blk_cell BK801.out 0).trans rfl, (blk_cell BK801.out 1).trans rfl, (blk_cell BK801.out 2).trans rfl, (blk_cell BK801.out 3).trans rfl⟩ (fun hHeld => ?_); refine with_tabW bolterlaw14_ActionOf.tab5 bolterlaw14_ActionOf.bits5 (fun HT_ HW_ => ?_)
        generalize w21.drew = w22 at HO793 HO799 BK801 HB hHeld ⊢
        refine pure_ (i := 0) (N := some 28) (v := ?_) (a' := ?_) #[true, false, false, false, false, false, false, false, false] rfl rfl (any_of HT_.out (by kernel_rfl)) (fun _ _ _ h => h) (Or.inl ⟨by rfl, ?_⟩) ?_ ?_
        rotate_left
        · intro w'
          go_simp
          with_reducible rfl
        rotate_left
        · simp only [Act.put, List.setIfInBounds_toArray, List.set_cons_zero, List.set_cons_succ, i64_w, i32_w]
          rfl
        refine pure_ (i := 1) (N := some 29) (v := ?_) (a' := ?_) #[true, true, false, false, false, false, false, false, false] rfl rfl (any_of HT_.out (by kernel_rfl)) (fun _ _ _ h => h) (Or.inl ⟨by rfl, ?_⟩) ?_ ?_
        rotate_left
        · intro w'
          go_simp
          with_reducible rfl
        rotate_left
        · simp only [Act.put, List.setIfInBounds_toArray, List.set_cons_zero, List.set_cons_succ, i64_w, i32_w]
          rfl
        refine pure_ (i := 2) (N := some 30) (v := ?_) (a' := ?_) #[true, true, true, false, false, false, false, false, false] rfl rfl (any_of HT_.out (by kernel_rfl)) (fun _ _ _ h => h) (Or.inl ⟨by rfl, ?_⟩) ?_ ?_
        rotate_left
        · intro w'
          go_simp
          with_reducible rfl
        rotate_left
        · simp only [Act.put, List.setIfInBounds_toArray, List.set_cons_zero, List.set_cons_succ, i64_w, i32_w]
          rfl
        refine pure_ (i := 4) (N := some 32) (v := ?_) (a' := ?_) #[true, true, true, false, true, false, false, false, false] rfl rfl (any_of HT_.out (by kernel_rfl)) (fun _ _ _ h => h) (Or.inl ⟨by rfl, ?_⟩) ?_ ?_
        rotate_left
        · intro w'
          go_simp
          with_reducible rfl
        rotate_left
        · simp only [Act.put, List.setIfInBounds_toArray, List.set_cons_zero, List.set_cons_succ, i64_w, i32_w]
          rfl
        refine take_ (i := 3) (N := some 31) (v := ?_) (a' := ?_) #[true, true, true, true, true, false, false, false, false] rfl rfl (take_ofW HT_.out HW_.out (by kernel_rfl)) (fun _ _ _ h => h) (Or.inl ⟨by rfl, ?_⟩) hHeld ?_ ?_
        rotate_left
        · rintro w' ⟨s0, s1, s2, s3⟩
          go_simp
          with_reducible rfl
        rotate_left
        · simp only [Act.put, List.setIfInBounds_toArray, List.set_cons_zero, List.set_cons_succ, i64_w, i32_w]
          rfl
        refine one_ (i := 5) (N := some 33) #[true, true, true, true, true, true, false, false, false] rfl rfl (one_of HT_.out (by kernel_rfl)) (by decide) (fun K hK => ?_)
        refine goes_ Try.func14 (by kernel_rfl) rfl #[.string t790] (by rfl) rfl rfl (by (try simp only [List.map_toArray, List.map_cons, List.map_nil]); first | done | rfl | (simp only [List.length_drop, List.length_take]; rfl)) ?_
        with_reducible refine (bolterlaw14_of.calls k t790 t802 t803 t804 t805 _ A19.out).mono ?_
        rintro e w23 ⟨v806, rfl, ho0, hb⟩
        refine ⟨_, rfl, ?_⟩
        have n0_ := Aside0.mk (Kd.R_elder' (by (with_reducible repeat (first | apply Kd.R_alloc | apply Kd.R_drewN | apply Kd.R_drew)); exact HO793.out) (Kd.R_base ho0) hb)
        have n1_ := Aside0.mk (Kd.R_elder' (by (with_reducible repeat (first | apply Kd.R_alloc | apply Kd.R_drewN | apply Kd.R_drew)); exact HO799.out) (Kd.R_base ho0) hb)
        have n2_ := Aside0.mk (Kd.R_lower (Kd.R_new' (Kd.R_new' ho0 (Kd.R_lt (by (with_reducible repeat (first | apply Kd.R_alloc | apply Kd.R_drewN | apply Kd.R_drew)); exact HO793.out))) (Kd.R_lt (by (with_reducible repeat (first | apply Kd.R_alloc | apply Kd.R_drewN | apply Kd.R_drew)); exact HO799.out))) (below_size (by repeat (first | (with_reducible first | exact HB.out | apply below_alloc | apply pw_below_drewN | apply below_drew1 | refine below_set ?_ GE801.out) | exact HB.out))))
        have n3_ := Aside0.mk (blk_below (g := gb801) (o := .cells #[.int .i64 t794, .string t795, .bool t796, .slice Ao17 t797.length co17] 28 (0, 0)) (by (with_reducible repeat (first | refine blk_drewN ?_ _ | refine blk_drew ?_ | refine blk_alloc ?_ _)); exact BK801.out) hb)
        have n4_ := Aside0.mk (below_step (by repeat (first | (with_reducible first | exact HB.out | apply below_alloc | apply pw_below_drewN | apply below_drew1 | refine below_set ?_ GE801.out) | exact HB.out)) hb)
        clear HO793
        clear HO799
        clear BK801
        clear HB
        have HO793 := n0_
        have HO799 := n1_
        have HO807 := n2_
        have BK801 := n3_
        have HB := n4_
        clear n0_ n1_ n2_ n3_ n4_
        (try clear hb)
        (try clear hb2)
        (try clear hk)
        (try clear hi)
        (try clear ho0)
        obtain ⟨Ao24, co24, eo24⟩ := Kd.R_slice HO807.out
        (first | subst eo24 | (injection eo24 with f1_ f2_ f3_; have f4_ := f1_.symm; have f5_ := f3_.symm; clear f1_ f2_ f3_; subst f4_; subst f5_))
        refine hK.out _ _ ⟨(blk_cell BK801.out 0).trans rfl, (blk_cell BK801.out 1).trans rfl, (blk_cell BK801.out 2).trans rfl, (blk_cell BK801.out 3).trans rfl⟩ (fun hHeld => ?_)
        clear hK K
        refine norm_ (a' := ?_) ?_ ?_
        rotate_left
        · show Act.put _ (some 33) _ = _
          simp only [Act.put, List.setIfInBounds_toArray, List.set_cons_zero, List.set_cons_succ, i64_w, i32_w]
          rfl
        refine one_ (i := 6) (N := some 34) #[true, true, true, true, true, true, true, false, false] rfl rfl (one_of HT_.out (by kernel_rfl)) (by decide) (fun K hK => ?_)
        refine goes_ Try.func20 (by kernel_rfl) rfl #[.agg #[.int .i64 t794, .string t795, .bool t796, .slice Ao17 t797.length co17], .agg #[.int .i64 t802, .string t803, .bool t804, .slice Ao24 t805.length co24]] (by rfl) rfl rfl (by (try simp only [List.map_toArray, List.map_cons, List.map_nil]); first | done | rfl | (simp only [List.length_drop, List.length_take]; rfl)) ?_
        with_reducible refine (action_Same.calls k t794 t795 t796 _ _ t797 t802 t803 t804 _ _ t805 t808 _ ?side1 ?side2 ?side3 ?side4 A20.out).mono ?_
        (case side1 => repeat (first | exact (Kd.R_reads' HO799.out).2.2 | (with_reducible refine Kd.C_alloc ?_ _) | (with_reducible refine Kd.C_drewN ?_ _) | (with_reducible refine Kd.C_drew ?_)))
        (case side2 => exact (Kd.R_reads' HO799.out).2.1)
        (case side3 => repeat (first | exact (Kd.R_reads' HO807.out).2.2 | (with_reducible refine Kd.C_alloc ?_ _) | (with_reducible refine Kd.C_drewN ?_ _) | (with_reducible refine Kd.C_drew ?_)))
        (case side4 => exact (Kd.R_reads' HO807.out).2.1)
        rintro e w25 ⟨rfl, hb⟩
        refine ⟨_, rfl, ?_⟩
        have n0_ := Aside0.mk (Kd.R_below (by (with_reducible repeat (first | apply Kd.R_alloc | apply Kd.R_drewN | apply Kd.R_drew)); exact HO793.out) hb)
        have n1_ := Aside0.mk (Kd.R_below (by (with_reducible repeat (first | apply Kd.R_alloc | apply Kd.R_drewN | apply Kd.R_drew)); exact HO799.out) hb)
        have n2_ := Aside0.mk (Kd.R_below (by (with_reducible repeat (first | apply Kd.R_alloc | apply Kd.R_drewN | apply Kd.R_drew)); exact HO807.out) hb)
        have n3_ := Aside0.mk (blk_below (g := gb801) (o := .cells #[.int .i64 t794, .string t795, .bool t796, .slice Ao17 t797.length co17] 28 (0, 0)) (by (with_reducible repeat (first | refine blk_drewN ?_ _ | refine blk_drew ?_ | refine blk_alloc ?_ _)); exact BK801.out) hb)
        have n4_ := Aside0.mk (below_step (by repeat (first | (with_reducible first | exact HB.out | apply below_alloc | apply pw_below_drewN | apply below_drew1 | refine below_set ?_ GE801.out) | exact HB.out)) hb)
        clear HO793
        clear HO799
        clear HO807
        clear BK801
        clear HB
        have HO793 := n0_
        have HO799 := n1_
        have HO807 := n2_
        have BK801 := n3_
        have HB := n4_
        clear n0_ n1_ n2_ n3_ n4_
        (try clear hb)
        (try clear hb2)
        (try clear hk)
        (try clear hi)
        refine hK.out _ _ ⟨(blk_cell BK801.out 0).trans rfl, (blk_cell BK801.out 1).trans rfl, (blk_cell BK801.out 2).trans rfl, (blk_cell BK801.out 3).trans rfl⟩ (fun hHeld => ?_)
        clear hK K
        refine norm_ (a' := ?_) ?_ ?_
        rotate_left
        · show Act.put _ (some 34) _ = _
          simp only [Act.put, List.setIfInBounds_toArray, List.set_cons_zero, List.set_cons_succ, i64_w, i32_w]
          rfl
        refine pure_ (i := 7) (N := some 35) (v := ?_) (a' := ?_) #[true, true, true, true, true, true, true, true, false] rfl rfl (any_of HT_.out (by kernel_rfl)) (fun _ _ _ h => h) (Or.inl ⟨by rfl, ?_⟩) ?_ ?_
        rotate_left
        · intro w'
          go_simp
          with_reducible rfl
        rotate_left
        · simp only [Act.put, List.setIfInBounds_toArray, List.set_cons_zero, List.set_cons_succ, i64_w, i32_w]
          rfl
        refine pure_ (i := 8) (N := some 36) (v := ?_) (a' := ?_) #[true, true, true, true, true, true, true, true, true] rfl rfl (any_of HT_.out (by kernel_rfl)) (fun _ _ _ h => h) (Or.inl ⟨by rfl, ?_⟩) ?_ ?_
        rotate_left
        · intro w'
          go_simp
          with_reducible rfl
        rotate_left
        · simp only [Act.put, List.setIfInBounds_toArray, List.set_cons_zero, List.set_cons_succ, i64_w, i32_w]
          rfl
        refine done_ (done_of HT_.out (by kernel_rfl)) ?_
        try go_wp2
        go_meet
        case rel => exact ⟨_, (!t808), (by first | rfl | (simp; done) | (simp [*]; done)), H', ⟨by first | omega | exact Nat.le_refl _⟩, ⟨by (with_reducible repeat (first | apply Kd.R_alloc | apply Kd.R_drewN | apply Kd.R_drew)); exact Kd.R_mono HO799.out (fun _ hk => trivial)⟩, ⟨by (with_reducible repeat (first | refine blk_drewN ?_ _ | refine blk_drew ?_ | refine blk_alloc ?_ _)); exact BK801.out⟩, ⟨by repeat (first | (with_reducible first | exact HB.out | apply below_alloc | apply pw_below_drewN | apply below_drew1 | refine below_set ?_ GE801.out) | exact HB.out)⟩⟩
      · replace c18 := Bool.eq_false_iff.mpr c18
        subst c18
        have H1 : (bolterlaw14_ActionOf.j0 k l0 true) = some r := by rw [if_neg (show ¬ (false = true) by decide)] at H; exact H
        clear H
        have H := H1
        clear H1
        have H' := Aside0.mk H
        clear H
        try go_wp2
        have n0_ : Aside0 (Kd.R k43 43 ((((w15.setCell ⟨gb801, 0, none⟩ (.int .i64 t794)).setCell ⟨gb801, 1, none⟩ (.string t795)).setCell ⟨gb801, 2, none⟩ (.bool t796)).setCell ⟨gb801, 3, none⟩ (.slice Ao17 t797.length co17)) w.heap.size (fun k_ => some k_ ≠ (.slice Ao17 t797.length co17 : Value).ownBlock) (.slice Ao13 y791.length co13) y791) := ⟨by (with_reducible repeat (first | apply Kd.R_alloc | apply Kd.R_drewN | apply Kd.R_drew)); exact Kd.R_mono (Kd.R_far (p := ⟨gb801, 3, none⟩) (Kd.R_far (p := ⟨gb801, 2, none⟩) (Kd.R_far (p := ⟨gb801, 1, none⟩) (Kd.R_far (p := ⟨gb801, 0, none⟩) (Kd.R_types HO793.out BK801.out (by decide)) (fun _ hk => hk.2) (.int .i64 t794)) (fun _ hk => hk.2) (.string t795)) (fun _ hk => hk.2) (.bool t796)) (fun _ hk => hk.2) (.slice Ao17 t797.length co17)) (fun _ hk => hk.1.2)⟩
        have n1_ : Aside0 (Kd.R k43 43 ((((w15.setCell ⟨gb801, 0, none⟩ (.int .i64 t794)).setCell ⟨gb801, 1, none⟩ (.string t795)).setCell ⟨gb801, 2, none⟩ (.bool t796)).setCell ⟨gb801, 3, none⟩ (.slice Ao17 t797.length co17)) w.heap.size (fun k_ => some k_ ≠ (.slice Ao13 y791.length co13 : Value).ownBlock) (.slice Ao17 t797.length co17) t797) := ⟨by (with_reducible repeat (first | apply Kd.R_alloc | apply Kd.R_drewN | apply Kd.R_drew)); exact Kd.R_mono (Kd.R_far (p := ⟨gb801, 3, none⟩) (Kd.R_far (p := ⟨gb801, 2, none⟩) (Kd.R_far (p := ⟨gb801, 1, none⟩) (Kd.R_far (p := ⟨gb801, 0, none⟩) (Kd.R_types HO799.out BK801.out (by decide)) (fun _ hk => hk.2) (.int .i64 t794)) (fun _ hk => hk.2) (.string t795)) (fun _ hk => hk.2) (.bool t796)) (fun _ hk => hk.2) (.slice Ao17 t797.length co17)) (fun _ hk => hk.1.2)⟩
        have n2_ : Aside0 (((((w15.setCell ⟨gb801, 0, none⟩ (.int .i64 t794)).setCell ⟨gb801, 1, none⟩ (.string t795)).setCell ⟨gb801, 2, none⟩ (.bool t796)).setCell ⟨gb801, 3, none⟩ (.slice Ao17 t797.length co17)).heap[gb801]? = some (.cells #[.int .i64 t794, .string t795, .bool t796, .slice Ao17 t797.length co17] 28 (0, 0))) := ⟨by (with_reducible repeat (first | refine blk_drewN ?_ _ | refine blk_drew ?_ | refine blk_alloc ?_ _)); refine blk_put (cs := #[.int .i64 t794, .string t795, .bool t796, .slice none 0 0]) ?_ 3 _ rfl; (with_reducible repeat (first | refine blk_drewN ?_ _ | refine blk_drew ?_ | refine blk_alloc ?_ _)); refine blk_put (cs := #[.int .i64 t794, .string t795, .bool false, .slice none 0 0]) ?_ 2 _ rfl; (with_reducible repeat (first | refine blk_drewN ?_ _ | refine blk_drew ?_ | refine blk_alloc ?_ _)); refine blk_put (cs := #[.int .i64 t794, .string (⟨#[]⟩ : ByteArray), .bool false, .slice none 0 0]) ?_ 1 _ rfl; (with_reducible repeat (first | refine blk_drewN ?_ _ | refine blk_drew ?_ | refine blk_alloc ?_ _)); refine blk_put (cs := #[.int .i64 0, .string (⟨#[]⟩ : ByteArray), .bool false, .slice none 0 0]) ?_ 0 _ rfl; (with_reducible repeat (first | refine blk_drewN ?_ _ | refine blk_drew ?_ | refine blk_alloc ?_ _)); exact BK801.out⟩
        have n3_ : Aside0 (Below w.heap.size w ((((w15.setCell ⟨gb801, 0, none⟩ (.int .i64 t794)).setCell ⟨gb801, 1, none⟩ (.string t795)).setCell ⟨gb801, 2, none⟩ (.bool t796)).setCell ⟨gb801, 3, none⟩ (.slice Ao17 t797.length co17))) := ⟨by repeat (first | (with_reducible first | exact HB.out | apply below_alloc | apply pw_below_drewN | apply below_drew1 | refine below_set ?_ GE801.out) | exact HB.out)⟩
        (try clear HO793)
        (try clear HO799)
        (try clear BK801)
        (try clear HB)
        generalize ((((w15.setCell ⟨gb801, 0, none⟩ (.int .i64 t794)).setCell ⟨gb801, 1, none⟩ (.string t795)).setCell ⟨gb801, 2, none⟩ (.bool t796)).setCell ⟨gb801, 3, none⟩ (.slice Ao17 t797.length co17)) = w26 at n0_ n1_ n2_ n3_ ⊢
        have HO793 := n0_
        have HO799 := n1_
        have BK801 := n2_
        have HB := n3_
        clear n0_ n1_ n2_ n3_
        have n0_ := Aside0.mk (Kd.R_drew HO793.out)
        have n1_ := Aside0.mk (Kd.R_drew HO799.out)
        have n2_ := Aside0.mk (blk_drew BK801.out)
        have n3_ := Aside0.mk (below_drew1 HB.out)
        clear HO793
        clear HO799
        clear BK801
        clear HB
        have HO793 := n0_
        have HO799 := n1_
        have BK801 := n2_
        have HB := n3_
        clear n0_ n1_ n2_ n3_
        refine start_ (n := 9) (S := fun w' => True) (ds := []) #[false, false, false, false, false, false, false, false, false] (by kernel_rfl) rfl rfl trivial (fun hHeld => ?_); refine with_tabW bolterlaw14_ActionOf.tab5 bolterlaw14_ActionOf.bits5 (fun HT_ HW_ => ?_)
        generalize w26.drew = w27 at HO793 HO799 BK801 HB hHeld ⊢
        refine pure_ (i := 0) (N := some 28) (v := ?_) (a' := ?_) #[true, false, false, false, false, false, false, false, false] rfl rfl (any_of HT_.out (by kernel_rfl)) (fun _ _ _ h => h) (Or.inl ⟨by rfl, ?_⟩) ?_ ?_
        rotate_left
        · intro w'
          go_simp
          with_reducible rfl
        rotate_left
        · simp only [Act.put, List.setIfInBounds_toArray, List.set_cons_zero, List.set_cons_succ, i64_w, i32_w]
          rfl
        refine pure_ (i := 1) (N := some 29) (v := ?_) (a' := ?_) #[true, true, false, false, false, false, false, false, false] rfl rfl (any_of HT_.out (by kernel_rfl)) (fun _ _ _ h => h) (Or.inl ⟨by rfl, ?_⟩) ?_ ?_
        rotate_left
        · intro w'
          go_simp
          with_reducible rfl
        rotate_left
        · simp only [Act.put, List.setIfInBounds_toArray, List.set_cons_zero, List.set_cons_succ, i64_w, i32_w]
          rfl
        refine pure_ (i := 2) (N := some 30) (v := ?_) (a' := ?_) #[true, true, true, false, false, false, false, false, false] rfl rfl (any_of HT_.out (by kernel_rfl)) (fun _ _ _ h => h) (Or.inl ⟨by rfl, ?_⟩) ?_ ?_
        rotate_left
        · intro w'
          go_simp
          with_reducible rfl
        rotate_left
        · simp only [Act.put, List.setIfInBounds_toArray, List.set_cons_zero, List.set_cons_succ, i64_w, i32_w]
          rfl
        refine pure_ (i := 3) (N := some 31) (v := undef) (a' := ?_) #[true, true, true, true, false, false, false, false, false] rfl rfl (any_of HT_.out (by kernel_rfl)) (fun _ _ _ h => h) (Or.inr ⟨by rfl, rfl⟩) ?_ ?_
        rotate_left
        · simp only [Act.put, List.setIfInBounds_toArray, List.set_cons_zero, List.set_cons_succ, i64_w, i32_w]
          rfl
        refine pure_ (i := 4) (N := some 32) (v := undef) (a' := ?_) #[true, true, true, true, true, false, false, false, false] rfl rfl (any_of HT_.out (by kernel_rfl)) (fun _ _ _ h => h) (Or.inr ⟨by rfl, rfl⟩) ?_ ?_
        rotate_left
        · simp only [Act.put, List.setIfInBounds_toArray, List.set_cons_zero, List.set_cons_succ, i64_w, i32_w]
          rfl
        refine pure_ (i := 5) (N := some 33) (v := undef) (a' := ?_) #[true, true, true, true, true, true, false, false, false] rfl rfl (any_of HT_.out (by kernel_rfl)) (fun _ _ _ h => h) (Or.inr ⟨by rfl, rfl⟩) ?_ ?_
        rotate_left
        · simp only [Act.put, List.setIfInBounds_toArray, List.set_cons_zero, List.set_cons_succ, i64_w, i32_w]
          rfl
        refine pure_ (i := 6) (N := some 34) (v := undef) (a' := ?_) #[true, true, true, true, true, true, true, false, false] rfl rfl (any_of HT_.out (by kernel_rfl)) (fun _ _ _ h => h) (Or.inr ⟨by rfl, rfl⟩) ?_ ?_
        rotate_left
        · simp only [Act.put, List.setIfInBounds_toArray, List.set_cons_zero, List.set_cons_succ, i64_w, i32_w]
          rfl
        refine pure_ (i := 7) (N := some 35) (v := undef) (a' := ?_) #[true, true, true, true, true, true, true, true, false] rfl rfl (any_of HT_.out (by kernel_rfl)) (fun _ _ _ h => h) (Or.inr ⟨by rfl, rfl⟩) ?_ ?_
        rotate_left
        · simp only [Act.put, List.setIfInBounds_toArray, List.set_cons_zero, List.set_cons_succ, i64_w, i32_w]
          rfl
        refine pure_ (i := 8) (N := some 36) (v := ?_) (a' := ?_) #[true, true, true, true, true, true, true, true, true] rfl rfl (any_of HT_.out (by kernel_rfl)) (fun _ _ _ h => h) (Or.inl ⟨by rfl, ?_⟩) ?_ ?_
        rotate_left
        · intro w'
          go_simp
          with_reducible rfl
        rotate_left
        · simp only [Act.put, List.setIfInBounds_toArray, List.set_cons_zero, List.set_cons_succ, i64_w, i32_w]
          rfl
        refine done_ (done_of HT_.out (by kernel_rfl)) ?_
        try go_wp2
        go_meet
        case rel => exact ⟨_, (true), (by first | rfl | (simp; done) | (simp [*]; done)), H', ⟨by first | omega | exact Nat.le_refl _⟩, ⟨by (with_reducible repeat (first | apply Kd.R_alloc | apply Kd.R_drewN | apply Kd.R_drew)); exact Kd.R_mono HO799.out (fun _ hk => trivial)⟩, ⟨by (with_reducible repeat (first | refine blk_drewN ?_ _ | refine blk_drew ?_ | refine blk_alloc ?_ _)); exact BK801.out⟩, ⟨by repeat (first | (with_reducible first | exact HB.out | apply below_alloc | apply pw_below_drewN | apply below_drew1 | refine below_set ?_ GE801.out) | exact HB.out)⟩⟩
    case rest =>
      clear HC8
      try clear c1
      try clear c2
      try clear p2
      try clear c4
      try clear c5
      try clear c13
      try clear c14
      try clear c15
      try clear c18
      try clear c19
      try clear c20
      try clear hcz16_0
      try clear hcz16_1
      try clear hcz16_2
      try clear hcz16_3
      try clear hfz16_0
      try clear hfz16_1
      try clear hfz16_2
      try clear hfz16_3
      obtain ⟨kq, x36_7, rfl, HA, HJ7, HO_802003, BK801, HB⟩ := hcut
      cases kq with
      | zero => exact absurd HA.out (by simp [bolterlaw14_ActionOf.j0])
      | succ kj7 =>
        have H := HA.out
        clear HA
        simp only [bolterlaw14_ActionOf.j0] at H
        by_cases c28 : x36_7 = true
        · subst c28
          have H1 : (some false) = some r := by rw [if_pos rfl] at H; exact H
          clear H
          have H := H1
          clear H1
          obtain rfl := Option.some.inj H
          exact absurd hT Bool.false_ne_true
        · replace c28 := Bool.eq_false_iff.mpr c28
          subst c28
          have H1 : ((bolterlaw05_Records.f kj7 l0 6).bind fun t809 => ((action_Of.f kj7 t809).bind fun bt812 => (bolterlaw14_ActionOf.l0 kj7 t809 bt812.2.2.2.2 ((t809.length : Int) == 0) t809 (t809.length : Int) 0 bt812.1 bt812.2.1 bt812.2.2.1 bt812.2.2.2.1))) = some r := by rw [if_neg (show ¬ (false = true) by decide)] at H; exact H
          clear H
          have H := H1
          clear H1
          replace H := Option.bind_eq_some_iff.mp H
          obtain ⟨t809, A290, H⟩ := H
          replace H : ((action_Of.f kj7 t809).bind fun bt812 => (bolterlaw14_ActionOf.l0 kj7 t809 bt812.2.2.2.2 ((t809.length : Int) == 0) t809 (t809.length : Int) 0 bt812.1 bt812.2.1 bt812.2.2.1 bt812.2.2.2.1)) = some r := H
          have A29 := Aside0.mk A290
          clear A290
          replace H := Option.bind_eq_some_iff.mp H
          obtain ⟨⟨t812, t813, t814, t815, t818⟩, A300, H⟩ := H
          replace H : (bolterlaw14_ActionOf.l0 kj7 t809 t818 ((t809.length : Int) == 0) t809 (t809.length : Int) 0 t812 t813 t814 t815) = some r := H
          have A30 := Aside0.mk A300
          clear A300
          have H' := Aside0.mk H
          clear H
          go_wp2_with (first | ((with_reducible refine gate_callee (f := 21) rfl ?_); refine goesL_ (some 38) rfl rfl Try.func21 (by kernel_rfl) rfl #[.slice A0 l0.length c0, .int .i64 6] rfl (by (try simp only [List.map_toArray, List.map_cons, List.map_nil]); first | done | rfl | (simp only [List.length_drop, List.length_take]; rfl)) ?_; (with_reducible refine (bolterlaw05_Records.calls kj7 _ _ l0 6 t809 _ ?side1 ?side2 A29.out).mono ?_); (case side1 => repeat (first | exact (Kd.C_below HR0.out HB.out) | (with_reducible refine Kd.C_alloc ?_ _) | (with_reducible refine Kd.C_drewN ?_ _) | (with_reducible refine Kd.C_drew ?_))); (case side2 => exact HC0.out); rintro e w31 ⟨v810, rfl, ho0, hb⟩; refine ⟨_, rfl, ?_⟩; have n0_ := Aside0.mk (Kd.R_elder' (by (with_reducible repeat (first | apply Kd.R_alloc | apply Kd.R_drewN | apply Kd.R_drew)); exact HO_802003.out) (Kd.R_base ho0) hb); have n1_ := Aside0.mk (Kd.R_lower (Kd.R_new' ho0 (Kd.R_lt (by (with_reducible repeat (first | apply Kd.R_alloc | apply Kd.R_drewN | apply Kd.R_drew)); exact HO_802003.out))) (below_size (by repeat (first | (with_reducible first | exact HB.out | apply below_alloc | apply pw_below_drewN | apply below_drew1 | refine below_set ?_ GE801.out) | exact HB.out)))); have n2_ := Aside0.mk (blk_below (g := gb801) (o := .cells #[.int .i64 t794, .string t795, .bool t796, .slice Ao17 t797.length co17] 28 (0, 0)) (by (with_reducible repeat (first | refine blk_drewN ?_ _ | refine blk_drew ?_ | refine blk_alloc ?_ _)); exact BK801.out) hb); have n3_ := Aside0.mk (below_step (by repeat (first | (with_reducible first | exact HB.out | apply below_alloc | apply pw_below_drewN | apply below_drew1 | refine below_set ?_ GE801.out) | exact HB.out)) hb); clear HO_802003; clear BK801; clear HB; have HO_802003 := n0_; have HO811 := n1_; have BK801 := n2_; have HB := n3_; clear n0_ n1_ n2_ n3_; (try clear hb); (try clear hb2); (try clear hk); (try clear hi); (try clear ho0); obtain ⟨Ao32, co32, eo32⟩ := Kd.R_slice HO811.out; subst eo32) | ((with_reducible refine gate_callee (f := 19) rfl ?_); refine goesL_ (some 41) rfl rfl Try.func19 (by kernel_rfl) rfl #[.slice Ao32 t809.length co32] rfl (by (try simp only [List.map_toArray, List.map_cons, List.map_nil]); first | done | rfl | (simp only [List.length_drop, List.length_take]; rfl)) ?_; (with_reducible refine (action_Of.calls kj7 _ _ t809 t812 t813 t814 t815 t818 _ ?side1 ?side2 A30.out).mono ?_); (case side1 => repeat (first | exact (Kd.R_reads' HO811.out).2.2 | (with_reducible refine Kd.C_alloc ?_ _) | (with_reducible refine Kd.C_drewN ?_ _) | (with_reducible refine Kd.C_drew ?_))); (case side2 => exact (Kd.R_reads' HO811.out).2.1); rintro e w33 ⟨v816, rfl, ho0, hb⟩; refine ⟨_, rfl, ?_⟩; have n0_ := Aside0.mk (Kd.R_elder' (by (with_reducible repeat (first | apply Kd.R_alloc | apply Kd.R_drewN | apply Kd.R_drew)); exact HO_802003.out) (Kd.R_base ho0) hb); have n1_ := Aside0.mk (Kd.R_elder' (by (with_reducible repeat (first | apply Kd.R_alloc | apply Kd.R_drewN | apply Kd.R_drew)); exact HO811.out) (Kd.R_base ho0) hb); have n2_ := Aside0.mk (Kd.R_lower (Kd.R_new' (Kd.R_new' ho0 (Kd.R_lt (by (with_reducible repeat (first | apply Kd.R_alloc | apply Kd.R_drewN | apply Kd.R_drew)); exact HO_802003.out))) (Kd.R_lt (by (with_reducible repeat (first | apply Kd.R_alloc | apply Kd.R_drewN | apply Kd.R_drew)); exact HO811.out))) (below_size (by repeat (first | (with_reducible first | exact HB.out | apply below_alloc | apply pw_below_drewN | apply below_drew1 | refine below_set ?_ GE801.out) | exact HB.out)))); have n3_ := Aside0.mk (blk_below (g := gb801) (o := .cells #[.int .i64 t794, .string t795, .bool t796, .slice Ao17 t797.length co17] 28 (0, 0)) (by (with_reducible repeat (first | refine blk_drewN ?_ _ | refine blk_drew ?_ | refine blk_alloc ?_ _)); exact BK801.out) hb); have n4_ := Aside0.mk (below_step (by repeat (first | (with_reducible first | exact HB.out | apply below_alloc | apply pw_below_drewN | apply below_drew1 | refine below_set ?_ GE801.out) | exact HB.out)) hb); clear HO_802003; clear HO811; clear BK801; clear HB; have HO_802003 := n0_; have HO811 := n1_; have HO817 := n2_; have BK801 := n3_; have HB := n4_; clear n0_ n1_ n2_ n3_ n4_; (try clear hb); (try clear hb2); (try clear hk); (try clear hi); (try clear ho0)) | ((with_reducible refine gate_dst (N := 11) rfl ?_); (try (refine gate_guard (by rfl) ?_; dsimp only)); refine box_event ?hg (N := 11) ?hd (cs := #[.int .i64 0, .string (⟨#[]⟩ : ByteArray), .bool false, .slice none 0 0]) (t := 28) ?hr ?_; (case hd => rfl); (case hg => rfl); (case hr => first | (go_simp; done) | (go_simp; rfl)); intro gb819 hg w34 hbox hb; have n0_ := Aside0.mk (Kd.R_below (by (with_reducible repeat (first | apply Kd.R_alloc | apply Kd.R_drewN | apply Kd.R_drew)); exact HO_802003.out) hb); have n1_ := Aside0.mk (Kd.R_below (by (with_reducible repeat (first | apply Kd.R_alloc | apply Kd.R_drewN | apply Kd.R_drew)); exact HO811.out) hb); have n2_ := Aside0.mk (Kd.R_below (by (with_reducible repeat (first | apply Kd.R_alloc | apply Kd.R_drewN | apply Kd.R_drew)); exact HO817.out) hb); have n3_ := Aside0.mk (blk_below (g := gb801) (o := .cells #[.int .i64 t794, .string t795, .bool t796, .slice Ao17 t797.length co17] 28 (0, 0)) (by (with_reducible repeat (first | refine blk_drewN ?_ _ | refine blk_drew ?_ | refine blk_alloc ?_ _)); exact BK801.out) hb); have n4_ := Aside0.mk (below_step (by repeat (first | (with_reducible first | exact HB.out | apply below_alloc | apply pw_below_drewN | apply below_drew1 | refine below_set ?_ GE801.out) | exact HB.out)) hb); have n5_ := Aside0.mk (hbox); have n6_ := Aside0.mk ((by rw [hg]; exact (below_size (by repeat (first | (with_reducible first | exact HB.out | apply below_alloc | apply pw_below_drewN | apply below_drew1 | refine below_set ?_ GE801.out) | exact HB.out))) : w.heap.size ≤ gb819)); have n7_ := Aside0.mk ((by rw [hg]; exact (below_size (by repeat (first | (with_reducible first | exact HB.out | apply below_alloc | apply pw_below_drewN | apply below_drew1 | refine below_set ?_ GE801.out) | exact HB.out))) : w.heap.size ≤ gb819)); have n8_ := Aside0.mk ((by rw [hg]; exact Nat.ne_of_lt (blk_lt (g := gb801) (o := .cells #[.int .i64 t794, .string t795, .bool t796, .slice Ao17 t797.length co17] 28 (0, 0)) (by (with_reducible repeat (first | refine blk_drewN ?_ _ | refine blk_drew ?_ | refine blk_alloc ?_ _)); exact BK801.out)) : gb801 ≠ gb819)); have n9_ := Aside0.mk ((by rw [hg]; exact Nat.ne_of_gt (blk_lt (g := gb801) (o := .cells #[.int .i64 t794, .string t795, .bool t796, .slice Ao17 t797.length co17] 28 (0, 0)) (by (with_reducible repeat (first | refine blk_drewN ?_ _ | refine blk_drew ?_ | refine blk_alloc ?_ _)); exact BK801.out)) : gb819 ≠ gb801)); clear HO_802003; clear HO811; clear HO817; clear BK801; clear HB; have HO_802003 := n0_; have HO811 := n1_; have HO817 := n2_; have BK801 := n3_; have HB := n4_; have BK819 := n5_; have GW819 := n6_; have GE819 := n7_; have NB801_819 := n8_; have NB819_801 := n9_; clear n0_ n1_ n2_ n3_ n4_ n5_ n6_ n7_ n8_ n9_; clear hb hbox hg; have hnb35 := NB819_801.out; have hnc35 := NB801_819.out; have hcz36_0 : w34.cell? ⟨gb819, 0, none⟩ = some (.int .i64 0) := (blk_cell BK819.out 0).trans rfl; have hcz36_1 : w34.cell? ⟨gb819, 1, none⟩ = some (.string (⟨#[]⟩ : ByteArray)) := (blk_cell BK819.out 1).trans rfl; have hcz36_2 : w34.cell? ⟨gb819, 2, none⟩ = some (.bool false) := (blk_cell BK819.out 2).trans rfl; have hcz36_3 : w34.cell? ⟨gb819, 3, none⟩ = some (.slice none 0 0) := (blk_cell BK819.out 3).trans rfl; have hfz36_0 := blk_frozen BK819.out 0; have hfz36_1 := blk_frozen BK819.out 1; have hfz36_2 := blk_frozen BK819.out 2; have hfz36_3 := blk_frozen BK819.out 3; obtain ⟨Ao37, co37, eo37⟩ := Kd.R_slice HO817.out; subst eo37))
          go_loopg [13, 49] kj7 (fun kq v13 v49 w' => ∃ (x13_2 : Bool) (x49_2 : Int), v13 = .bool x13_2 ∧ v49 = .int .i64 x49_2 ∧ Aside0 (bolterlaw14_ActionOf.l0 kq t809 t818 x13_2 t809 (t809.length : Int) x49_2 t812 t813 t814 t815 = some r) ∧ Aside0 (kq ≤ kj7) ∧ Aside0 (Kd.R k43 43 w' w.heap.size (fun k_ => some k_ ≠ ((.slice Ao17 t797.length co17) : Value).ownBlock ∧ some k_ ≠ ((.slice Ao37 t815.length co37) : Value).ownBlock) (.slice Ao32 t809.length co32) t809) ∧ Aside0 (Kd.R k43 43 w' w.heap.size (fun k_ => some k_ ≠ ((.slice Ao17 t797.length co17) : Value).ownBlock ∧ some k_ ≠ ((.slice Ao37 t815.length co37) : Value).ownBlock) (.slice Ao32 t809.length co32) t809) ∧ Aside0 (Kd.R k43 43 w' w.heap.size (fun k_ => some k_ ≠ ((.slice Ao32 t809.length co32) : Value).ownBlock ∧ some k_ ≠ ((.slice Ao32 t809.length co32) : Value).ownBlock ∧ some k_ ≠ ((.slice Ao37 t815.length co37) : Value).ownBlock) (.slice Ao17 t797.length co17) t797) ∧ Aside0 (Kd.R k43 43 w' w.heap.size (fun k_ => some k_ ≠ ((.slice Ao32 t809.length co32) : Value).ownBlock ∧ some k_ ≠ ((.slice Ao32 t809.length co32) : Value).ownBlock ∧ some k_ ≠ ((.slice Ao17 t797.length co17) : Value).ownBlock) (.slice Ao37 t815.length co37) t815) ∧ Aside0 (w'.heap[gb801]? = some (.cells #[.int .i64 t794, .string t795, .bool t796, (.slice Ao17 t797.length co17)] 28 (0, 0))) ∧ Aside0 (w'.heap[gb819]? = some (.cells #[.int .i64 t812, .string t813, .bool t814, (.slice Ao37 t815.length co37)] 28 (0, 0))) ∧ Aside0 (Below w.heap.size w w'))
          case atStart => exact ⟨(((t809.length : Int) == 0)), (0), (by first | rfl | (simp; done) | (simp [*]; done)), (by first | rfl | (simp; done) | (simp [*]; done)), H', ⟨Nat.le_refl _⟩, ⟨by (with_reducible repeat (first | apply Kd.R_alloc | apply Kd.R_drewN | apply Kd.R_drew)); exact Kd.R_mono (Kd.R_far (p := ⟨gb819, 3, none⟩) (Kd.R_far (p := ⟨gb819, 2, none⟩) (Kd.R_far (p := ⟨gb819, 1, none⟩) (Kd.R_far (p := ⟨gb819, 0, none⟩) (Kd.R_types HO811.out BK819.out (by decide)) (fun _ hk => hk.2) (.int .i64 t812)) (fun _ hk => hk.2) (.string t813)) (fun _ hk => hk.2) (.bool t814)) (fun _ hk => hk.2) (.slice Ao37 t815.length co37)) (fun _ hk => ⟨hk.1.1.2, hk.1.2⟩)⟩, ⟨by (with_reducible repeat (first | apply Kd.R_alloc | apply Kd.R_drewN | apply Kd.R_drew)); exact Kd.R_mono (Kd.R_far (p := ⟨gb819, 3, none⟩) (Kd.R_far (p := ⟨gb819, 2, none⟩) (Kd.R_far (p := ⟨gb819, 1, none⟩) (Kd.R_far (p := ⟨gb819, 0, none⟩) (Kd.R_types HO811.out BK819.out (by decide)) (fun _ hk => hk.2) (.int .i64 t812)) (fun _ hk => hk.2) (.string t813)) (fun _ hk => hk.2) (.bool t814)) (fun _ hk => hk.2) (.slice Ao37 t815.length co37)) (fun _ hk => ⟨hk.1.1.2, hk.1.2⟩)⟩, ⟨by (with_reducible repeat (first | apply Kd.R_alloc | apply Kd.R_drewN | apply Kd.R_drew)); exact Kd.R_mono (Kd.R_far (p := ⟨gb819, 3, none⟩) (Kd.R_far (p := ⟨gb819, 2, none⟩) (Kd.R_far (p := ⟨gb819, 1, none⟩) (Kd.R_far (p := ⟨gb819, 0, none⟩) (Kd.R_types HO_802003.out BK819.out (by decide)) (fun _ hk => hk.2) (.int .i64 t812)) (fun _ hk => hk.2) (.string t813)) (fun _ hk => hk.2) (.bool t814)) (fun _ hk => hk.2) (.slice Ao37 t815.length co37)) (fun _ hk => ⟨hk.1.1.2, ⟨hk.1.1.2, hk.1.2⟩⟩)⟩, ⟨by (with_reducible repeat (first | apply Kd.R_alloc | apply Kd.R_drewN | apply Kd.R_drew)); exact Kd.R_mono (Kd.R_far (p := ⟨gb819, 3, none⟩) (Kd.R_far (p := ⟨gb819, 2, none⟩) (Kd.R_far (p := ⟨gb819, 1, none⟩) (Kd.R_far (p := ⟨gb819, 0, none⟩) (Kd.R_types HO817.out BK819.out (by decide)) (fun _ hk => hk.2) (.int .i64 t812)) (fun _ hk => hk.2) (.string t813)) (fun _ hk => hk.2) (.bool t814)) (fun _ hk => hk.2) (.slice Ao37 t815.length co37)) (fun _ hk => ⟨hk.1.2, ⟨hk.1.2, hk.1.1.2⟩⟩)⟩, ⟨by (with_reducible repeat (first | refine blk_drewN ?_ _ | refine blk_drew ?_ | refine blk_alloc ?_ _)); refine blk_far ?_ NB801_819.out _; (with_reducible repeat (first | refine blk_drewN ?_ _ | refine blk_drew ?_ | refine blk_alloc ?_ _)); refine blk_far ?_ NB801_819.out _; (with_reducible repeat (first | refine blk_drewN ?_ _ | refine blk_drew ?_ | refine blk_alloc ?_ _)); refine blk_far ?_ NB801_819.out _; (with_reducible repeat (first | refine blk_drewN ?_ _ | refine blk_drew ?_ | refine blk_alloc ?_ _)); refine blk_far ?_ NB801_819.out _; (with_reducible repeat (first | refine blk_drewN ?_ _ | refine blk_drew ?_ | refine blk_alloc ?_ _)); exact BK801.out⟩, ⟨by (with_reducible repeat (first | refine blk_drewN ?_ _ | refine blk_drew ?_ | refine blk_alloc ?_ _)); refine blk_put (cs := #[.int .i64 t812, .string t813, .bool t814, .slice none 0 0]) ?_ 3 _ rfl; (with_reducible repeat (first | refine blk_drewN ?_ _ | refine blk_drew ?_ | refine blk_alloc ?_ _)); refine blk_put (cs := #[.int .i64 t812, .string t813, .bool false, .slice none 0 0]) ?_ 2 _ rfl; (with_reducible repeat (first | refine blk_drewN ?_ _ | refine blk_drew ?_ | refine blk_alloc ?_ _)); refine blk_put (cs := #[.int .i64 t812, .string (⟨#[]⟩ : ByteArray), .bool false, .slice none 0 0]) ?_ 1 _ rfl; (with_reducible repeat (first | refine blk_drewN ?_ _ | refine blk_drew ?_ | refine blk_alloc ?_ _)); refine blk_put (cs := #[.int .i64 0, .string (⟨#[]⟩ : ByteArray), .bool false, .slice none 0 0]) ?_ 0 _ rfl; (with_reducible repeat (first | refine blk_drewN ?_ _ | refine blk_drew ?_ | refine blk_alloc ?_ _)); exact BK819.out⟩, ⟨by repeat (first | (with_reducible first | exact HB.out | apply below_alloc | apply pw_below_drewN | apply below_drew1 | refine below_set ?_ GE801.out | refine below_set ?_ GE819.out) | exact HB.out)⟩⟩
          case round =>
            clear H'
            try clear c1
            try clear c2
            try clear p2
            try clear c3
            try clear c4
            try clear c5
            try clear c13
            try clear c14
            try clear c15
            try clear c18
            try clear c19
            try clear c20
            try clear c21
            try clear c28
            try clear c35
            try clear hcz16_0
            try clear hcz16_1
            try clear hcz16_2
            try clear hcz16_3
            try clear hcz36_0
            try clear hcz36_1
            try clear hcz36_2
            try clear hcz36_3
            try clear hfz16_0
            try clear hfz16_1
            try clear hfz16_2
            try clear hfz16_3
            try clear hfz36_0
            try clear hfz36_1
            try clear hfz36_2
            try clear hfz36_3
            try clear p2
            obtain ⟨x13_2, x49_2, rfl, rfl, HA, HK2, HO_10, HO_47, HO_802003, HO_820003, BK801, BK819, HB⟩ := hrel
            cases gk with
            | zero => exact absurd HA.out (by simp [bolterlaw14_ActionOf.l0])
            | succ k2 =>
              have H := HA.out
              clear HA
              simp only [bolterlaw14_ActionOf.l0] at H
              by_cases c38 : x49_2 < (t809.length : Int)
              · rw [if_pos c38] at H
                have c38b0 : decide (x49_2 < (t809.length : Int)) = true := decide_eq_true c38
                clear c38
                by_cases c39 : 0 ≤ x49_2
                · rw [if_pos c39] at H
                  have c39b0 : decide (0 ≤ x49_2) = true := decide_eq_true c39
                  clear c39
                  by_cases c40 : x49_2 < (t809.length : Int)
                  · rw [if_pos c40] at H
                    have c40b0 : decide (x49_2 < (t809.length : Int)) = true := decide_eq_true c40
                    clear c40
                    by_cases c41 : x13_2 = true
                    · subst c41
                      have H1 : (bolterlaw14_ActionOf.l0 k2 t809 t818 true t809 (t809.length : Int) (wrap64 (x49_2 + 1)) t812 t813 t814 t815) = some r := by rw [if_pos rfl] at H; exact H
                      clear H
                      have H := H1
                      clear H1
                      have H' := Aside0.mk H
                      clear H
                      have p820 : 0 ≤ (x49_2 : Int) := of_decide_eq_true (by first | (with_reducible assumption) | assumption)
                      have q820 : x49_2 < (t809.length : Int) := of_decide_eq_true (by first | (with_reducible assumption) | assumption)
                      obtain ⟨ad820, e820, hx820_0, hx820_1, hx820_2, hx820_3⟩ := at_T43 (Kd.R_reads' HO_47.out).2.2 x49_2 p820 q820
                      cases e820
                      replace p820 := eq_true p820
                      replace q820 := eq_true q820
                      go_wp2_with (first | ((with_reducible refine gate_dst (N := 15) rfl ?_); (try (refine gate_guard (by rfl) ?_; dsimp only)); refine box_event ?hg (N := 15) ?hd (cs := #[.string (⟨#[]⟩ : ByteArray), .int .u16 0, .int .u32 0, .string (⟨#[]⟩ : ByteArray)]) (t := 43) ?hr ?_; (case hd => rfl); (case hg => rfl); (case hr => first | (go_simp; done) | (go_simp; rfl)); intro gb821 hg w42 hbox hb; have n0_ := Aside0.mk (Kd.R_below (Kd.R_elderB (by (with_reducible repeat (first | apply Kd.R_alloc | apply Kd.R_drewN | apply Kd.R_drew)); exact HO_10.out) gb821 (Nat.le_of_eq hg.symm)) hb); have n1_ := Aside0.mk (Kd.R_below (Kd.R_elderB (by (with_reducible repeat (first | apply Kd.R_alloc | apply Kd.R_drewN | apply Kd.R_drew)); exact HO_47.out) gb821 (Nat.le_of_eq hg.symm)) hb); have n2_ := Aside0.mk (Kd.R_below (Kd.R_elderB (by (with_reducible repeat (first | apply Kd.R_alloc | apply Kd.R_drewN | apply Kd.R_drew)); exact HO_802003.out) gb821 (Nat.le_of_eq hg.symm)) hb); have n3_ := Aside0.mk (Kd.R_below (Kd.R_elderB (by (with_reducible repeat (first | apply Kd.R_alloc | apply Kd.R_drewN | apply Kd.R_drew)); exact HO_820003.out) gb821 (Nat.le_of_eq hg.symm)) hb); have n4_ := Aside0.mk (blk_below (g := gb801) (o := .cells #[.int .i64 t794, .string t795, .bool t796, .slice Ao17 t797.length co17] 28 (0, 0)) (by (with_reducible repeat (first | refine blk_drewN ?_ _ | refine blk_drew ?_ | refine blk_alloc ?_ _)); exact BK801.out) hb); have n5_ := Aside0.mk (blk_below (g := gb819) (o := .cells #[.int .i64 t812, .string t813, .bool t814, .slice Ao37 t815.length co37] 28 (0, 0)) (by (with_reducible repeat (first | refine blk_drewN ?_ _ | refine blk_drew ?_ | refine blk_alloc ?_ _)); exact BK819.out) hb); have n6_ := Aside0.mk (below_step (by repeat (first | (with_reducible first | exact HB.out | apply below_alloc | apply pw_below_drewN | apply below_drew1 | refine below_set ?_ GE801.out | refine below_set ?_ GE819.out) | exact HB.out)) hb); have n7_ := Aside0.mk (hbox); have n8_ := Aside0.mk ((by rw [hg]; exact (below_size (by repeat (first | (with_reducible first | exact HB.out | apply below_alloc | apply pw_below_drewN | apply below_drew1 | refine below_set ?_ GE801.out | refine below_set ?_ GE819.out) | exact HB.out))) : w.heap.size ≤ gb821)); have n9_ := Aside0.mk ((by rw [hg]; exact (below_size (by repeat (first | (with_reducible first | exact HB.out | apply below_alloc | apply pw_below_drewN | apply below_drew1 | refine below_set ?_ GE801.out | refine below_set ?_ GE819.out) | exact HB.out))) : w.heap.size ≤ gb821)); have n10_ := Aside0.mk ((by rw [hg]; exact Nat.ne_of_lt (blk_lt (g := gb801) (o := .cells #[.int .i64 t794, .string t795, .bool t796, .slice Ao17 t797.length co17] 28 (0, 0)) (by (with_reducible repeat (first | refine blk_drewN ?_ _ | refine blk_drew ?_ | refine blk_alloc ?_ _)); exact BK801.out)) : gb801 ≠ gb821)); have n11_ := Aside0.mk ((by rw [hg]; exact Nat.ne_of_gt (blk_lt (g := gb801) (o := .cells #[.int .i64 t794, .string t795, .bool t796, .slice Ao17 t797.length co17] 28 (0, 0)) (by (with_reducible repeat (first | refine blk_drewN ?_ _ | refine blk_drew ?_ | refine blk_alloc ?_ _)); exact BK801.out)) : gb821 ≠ gb801)); have n12_ := Aside0.mk ((by rw [hg]; exact Nat.ne_of_lt (blk_lt (g := gb819) (o := .cells #[.int .i64 t812, .string t813, .bool t814, .slice Ao37 t815.length co37] 28 (0, 0)) (by (with_reducible repeat (first | refine blk_drewN ?_ _ | refine blk_drew ?_ | refine blk_alloc ?_ _)); exact BK819.out)) : gb819 ≠ gb821)); have n13_ := Aside0.mk ((by rw [hg]; exact Nat.ne_of_gt (blk_lt (g := gb819) (o := .cells #[.int .i64 t812, .string t813, .bool t814, .slice Ao37 t815.length co37] 28 (0, 0)) (by (with_reducible repeat (first | refine blk_drewN ?_ _ | refine blk_drew ?_ | refine blk_alloc ?_ _)); exact BK819.out)) : gb821 ≠ gb819)); clear HO_10; clear HO_47; clear HO_802003; clear HO_820003; clear BK801; clear BK819; clear HB; have HO_10 := n0_; have HO_47 := n1_; have HO_802003 := n2_; have HO_820003 := n3_; have BK801 := n4_; have BK819 := n5_; have HB := n6_; have BK821 := n7_; have GW821 := n8_; have GE821 := n9_; have NB801_821 := n10_; have NB821_801 := n11_; have NB819_821 := n12_; have NB821_819 := n13_; clear n0_ n1_ n2_ n3_ n4_ n5_ n6_ n7_ n8_ n9_ n10_ n11_ n12_ n13_; clear hb hbox hg; have hnb43 := NB821_801.out; have hnc43 := NB801_821.out; have hnb44 := NB821_819.out; have hnc44 := NB819_821.out; have hcz45_0 : w42.cell? ⟨gb821, 0, none⟩ = some (.string (⟨#[]⟩ : ByteArray)) := (blk_cell BK821.out 0).trans rfl; have hcz45_1 : w42.cell? ⟨gb821, 1, none⟩ = some (.int .u16 0) := (blk_cell BK821.out 1).trans rfl; have hcz45_2 : w42.cell? ⟨gb821, 2, none⟩ = some (.int .u32 0) := (blk_cell BK821.out 2).trans rfl; have hcz45_3 : w42.cell? ⟨gb821, 3, none⟩ = some (.string (⟨#[]⟩ : ByteArray)) := (blk_cell BK821.out 3).trans rfl; have hfz45_0 := blk_frozen BK821.out 0; have hfz45_1 := blk_frozen BK821.out 1; have hfz45_2 := blk_frozen BK821.out 2; have hfz45_3 := blk_frozen BK821.out 3))
                      go_roundg k2
                      case measure => have := HJ7.out; have := HK2.out; omega
                      case rel => exact ⟨(true), (wrap64 (x49_2 + 1)), (by first | rfl | (simp; done) | (simp [*]; done)), (by first | rfl | (simp; done) | (simp [*]; done)), H', ⟨by have := HJ7.out; have := HK2.out; omega⟩, ⟨by (with_reducible repeat (first | apply Kd.R_alloc | apply Kd.R_drewN | apply Kd.R_drew)); exact Kd.R_mono (Kd.R_far (p := ⟨gb821, 3, none⟩) (Kd.R_far (p := ⟨gb821, 2, none⟩) (Kd.R_far (p := ⟨gb821, 1, none⟩) (Kd.R_far (p := ⟨gb821, 0, none⟩) (Kd.R_mono HO_10.out (fun k_ hk => (⟨hk, hk.2⟩ : _ ∧ k_ ≠ gb821))) (fun _ hk => hk.2) (.string ((rd_T43 t809 x49_2).f0))) (fun _ hk => hk.2) (.int .u16 ((rd_T43 t809 x49_2).f1))) (fun _ hk => hk.2) (.int .u32 ((rd_T43 t809 x49_2).f2))) (fun _ hk => hk.2) (.string ((rd_T43 t809 x49_2).f3))) (fun _ hk => ⟨hk.1.1.1, hk.1.1.2⟩)⟩, ⟨by (with_reducible repeat (first | apply Kd.R_alloc | apply Kd.R_drewN | apply Kd.R_drew)); exact Kd.R_mono (Kd.R_far (p := ⟨gb821, 3, none⟩) (Kd.R_far (p := ⟨gb821, 2, none⟩) (Kd.R_far (p := ⟨gb821, 1, none⟩) (Kd.R_far (p := ⟨gb821, 0, none⟩) (Kd.R_mono HO_47.out (fun k_ hk => (⟨hk, hk.2⟩ : _ ∧ k_ ≠ gb821))) (fun _ hk => hk.2) (.string ((rd_T43 t809 x49_2).f0))) (fun _ hk => hk.2) (.int .u16 ((rd_T43 t809 x49_2).f1))) (fun _ hk => hk.2) (.int .u32 ((rd_T43 t809 x49_2).f2))) (fun _ hk => hk.2) (.string ((rd_T43 t809 x49_2).f3))) (fun _ hk => ⟨hk.1.1.1, hk.1.1.2⟩)⟩, ⟨by (with_reducible repeat (first | apply Kd.R_alloc | apply Kd.R_drewN | apply Kd.R_drew)); exact Kd.R_mono (Kd.R_far (p := ⟨gb821, 3, none⟩) (Kd.R_far (p := ⟨gb821, 2, none⟩) (Kd.R_far (p := ⟨gb821, 1, none⟩) (Kd.R_far (p := ⟨gb821, 0, none⟩) (Kd.R_mono HO_802003.out (fun k_ hk => (⟨hk, hk.2⟩ : _ ∧ k_ ≠ gb821))) (fun _ hk => hk.2) (.string ((rd_T43 t809 x49_2).f0))) (fun _ hk => hk.2) (.int .u16 ((rd_T43 t809 x49_2).f1))) (fun _ hk => hk.2) (.int .u32 ((rd_T43 t809 x49_2).f2))) (fun _ hk => hk.2) (.string ((rd_T43 t809 x49_2).f3))) (fun _ hk => ⟨hk.1.1.1, ⟨hk.1.1.2.1, hk.1.1.2.2⟩⟩)⟩, ⟨by (with_reducible repeat (first | apply Kd.R_alloc | apply Kd.R_drewN | apply Kd.R_drew)); exact Kd.R_mono (Kd.R_far (p := ⟨gb821, 3, none⟩) (Kd.R_far (p := ⟨gb821, 2, none⟩) (Kd.R_far (p := ⟨gb821, 1, none⟩) (Kd.R_far (p := ⟨gb821, 0, none⟩) (Kd.R_mono HO_820003.out (fun k_ hk => (⟨hk, hk.2⟩ : _ ∧ k_ ≠ gb821))) (fun _ hk => hk.2) (.string ((rd_T43 t809 x49_2).f0))) (fun _ hk => hk.2) (.int .u16 ((rd_T43 t809 x49_2).f1))) (fun _ hk => hk.2) (.int .u32 ((rd_T43 t809 x49_2).f2))) (fun _ hk => hk.2) (.string ((rd_T43 t809 x49_2).f3))) (fun _ hk => ⟨hk.1.1.1, ⟨hk.1.1.2.1, hk.1.1.2.2⟩⟩)⟩, ⟨by (with_reducible repeat (first | refine blk_drewN ?_ _ | refine blk_drew ?_ | refine blk_alloc ?_ _)); refine blk_far ?_ NB801_821.out _; (with_reducible repeat (first | refine blk_drewN ?_ _ | refine blk_drew ?_ | refine blk_alloc ?_ _)); refine blk_far ?_ NB801_821.out _; (with_reducible repeat (first | refine blk_drewN ?_ _ | refine blk_drew ?_ | refine blk_alloc ?_ _)); refine blk_far ?_ NB801_821.out _; (with_reducible repeat (first | refine blk_drewN ?_ _ | refine blk_drew ?_ | refine blk_alloc ?_ _)); refine blk_far ?_ NB801_821.out _; (with_reducible repeat (first | refine blk_drewN ?_ _ | refine blk_drew ?_ | refine blk_alloc ?_ _)); exact BK801.out⟩, ⟨by (with_reducible repeat (first | refine blk_drewN ?_ _ | refine blk_drew ?_ | refine blk_alloc ?_ _)); refine blk_far ?_ NB819_821.out _; (with_reducible repeat (first | refine blk_drewN ?_ _ | refine blk_drew ?_ | refine blk_alloc ?_ _)); refine blk_far ?_ NB819_821.out _; (with_reducible repeat (first | refine blk_drewN ?_ _ | refine blk_drew ?_ | refine blk_alloc ?_ _)); refine blk_far ?_ NB819_821.out _; (with_reducible repeat (first | refine blk_drewN ?_ _ | refine blk_drew ?_ | refine blk_alloc ?_ _)); refine blk_far ?_ NB819_821.out _; (with_reducible repeat (first | refine blk_drewN ?_ _ | refine blk_drew ?_ | refine blk_alloc ?_ _)); exact BK819.out⟩, ⟨by repeat (first | (with_reducible first | exact HB.out | apply below_alloc | apply pw_below_drewN | apply below_drew1 | refine below_set ?_ GE801.out | refine below_set ?_ GE819.out | refine below_set ?_ GE821.out) | exact HB.out)⟩⟩
                    · replace c41 := Bool.eq_false_iff.mpr c41
                      subst c41
                      have H1 : (if ((rd_T43 t809 x49_2).f1) = 6 then (bolterlaw14_ActionOf.l0 k2 t809 t818 true t809 (t809.length : Int) (wrap64 (x49_2 + 1)) t812 t813 t814 t815) else (if ((rd_T43 t809 x49_2).f1) = 2 then (bolterlaw14_ActionOf.l0 k2 t809 t818 true t809 (t809.length : Int) (wrap64 (x49_2 + 1)) t812 t813 t814 t815) else (if ((rd_T43 t809 x49_2).f1) = 5 then (bolterlaw14_ActionOf.l0 k2 t809 t818 (decide ((t809.length : Int) > 1)) t809 (t809.length : Int) (wrap64 (x49_2 + 1)) t812 t813 t814 t815) else (bolterlaw14_ActionOf.l0 k2 t809 t818 false t809 (t809.length : Int) (wrap64 (x49_2 + 1)) t812 t813 t814 t815)))) = some r := by rw [if_neg (show ¬ (false = true) by decide)] at H; exact H
                      clear H
                      have H := H1
                      clear H1
                      by_cases c46 : ((rd_T43 t809 x49_2).f1) = 6
                      · rw [if_pos c46] at H
                        have c46b0 : (((rd_T43 t809 x49_2).f1) == 6) = true := beq_iff_eq.mpr c46
                        have c46b1 : (((rd_T43 t809 x49_2).f1) != 6) = false := bne_eq_false_iff_eq.mpr c46
                        clear c46
                        have H' := Aside0.mk H
                        clear H
                        have p820 : 0 ≤ (x49_2 : Int) := of_decide_eq_true (by first | (with_reducible assumption) | assumption)
                        have q820 : x49_2 < (t809.length : Int) := of_decide_eq_true (by first | (with_reducible assumption) | assumption)
                        obtain ⟨ad820, e820, hx820_0, hx820_1, hx820_2, hx820_3⟩ := at_T43 (Kd.R_reads' HO_47.out).2.2 x49_2 p820 q820
                        cases e820
                        replace p820 := eq_true p820
                        replace q820 := eq_true q820
                        go_wp2_with (first | ((with_reducible refine gate_dst (N := 15) rfl ?_); (try (refine gate_guard (by rfl) ?_; dsimp only)); refine box_event ?hg (N := 15) ?hd (cs := #[.string (⟨#[]⟩ : ByteArray), .int .u16 0, .int .u32 0, .string (⟨#[]⟩ : ByteArray)]) (t := 43) ?hr ?_; (case hd => rfl); (case hg => rfl); (case hr => first | (go_simp; done) | (go_simp; rfl)); intro gb821 hg w47 hbox hb; have n0_ := Aside0.mk (Kd.R_below (Kd.R_elderB (by (with_reducible repeat (first | apply Kd.R_alloc | apply Kd.R_drewN | apply Kd.R_drew)); exact HO_10.out) gb821 (Nat.le_of_eq hg.symm)) hb); have n1_ := Aside0.mk (Kd.R_below (Kd.R_elderB (by (with_reducible repeat (first | apply Kd.R_alloc | apply Kd.R_drewN | apply Kd.R_drew)); exact HO_47.out) gb821 (Nat.le_of_eq hg.symm)) hb); have n2_ := Aside0.mk (Kd.R_below (Kd.R_elderB (by (with_reducible repeat (first | apply Kd.R_alloc | apply Kd.R_drewN | apply Kd.R_drew)); exact HO_802003.out) gb821 (Nat.le_of_eq hg.symm)) hb); have n3_ := Aside0.mk (Kd.R_below (Kd.R_elderB (by (with_reducible repeat (first | apply Kd.R_alloc | apply Kd.R_drewN | apply Kd.R_drew)); exact HO_820003.out) gb821 (Nat.le_of_eq hg.symm)) hb); have n4_ := Aside0.mk (blk_below (g := gb801) (o := .cells #[.int .i64 t794, .string t795, .bool t796, .slice Ao17 t797.length co17] 28 (0, 0)) (by (with_reducible repeat (first | refine blk_drewN ?_ _ | refine blk_drew ?_ | refine blk_alloc ?_ _)); exact BK801.out) hb); have n5_ := Aside0.mk (blk_below (g := gb819) (o := .cells #[.int .i64 t812, .string t813, .bool t814, .slice Ao37 t815.length co37] 28 (0, 0)) (by (with_reducible repeat (first | refine blk_drewN ?_ _ | refine blk_drew ?_ | refine blk_alloc ?_ _)); exact BK819.out) hb); have n6_ := Aside0.mk (below_step (by repeat (first | (with_reducible first | exact HB.out | apply below_alloc | apply pw_below_drewN | apply below_drew1 | refine below_set ?_ GE801.out | refine below_set ?_ GE819.out) | exact HB.out)) hb); have n7_ := Aside0.mk (hbox); have n8_ := Aside0.mk ((by rw [hg]; exact (below_size (by repeat (first | (with_reducible first | exact HB.out | apply below_alloc | apply pw_below_drewN | apply below_drew1 | refine below_set ?_ GE801.out | refine below_set ?_ GE819.out) | exact HB.out))) : w.heap.size ≤ gb821)); have n9_ := Aside0.mk ((by rw [hg]; exact (below_size (by repeat (first | (with_reducible first | exact HB.out | apply below_alloc | apply pw_below_drewN | apply below_drew1 | refine below_set ?_ GE801.out | refine below_set ?_ GE819.out) | exact HB.out))) : w.heap.size ≤ gb821)); have n10_ := Aside0.mk ((by rw [hg]; exact Nat.ne_of_lt (blk_lt (g := gb801) (o := .cells #[.int .i64 t794, .string t795, .bool t796, .slice Ao17 t797.length co17] 28 (0, 0)) (by (with_reducible repeat (first | refine blk_drewN ?_ _ | refine blk_drew ?_ | refine blk_alloc ?_ _)); exact BK801.out)) : gb801 ≠ gb821)); have n11_ := Aside0.mk ((by rw [hg]; exact Nat.ne_of_gt (blk_lt (g := gb801) (o := .cells #[.int .i64 t794, .string t795, .bool t796, .slice Ao17 t797.length co17] 28 (0, 0)) (by (with_reducible repeat (first | refine blk_drewN ?_ _ | refine blk_drew ?_ | refine blk_alloc ?_ _)); exact BK801.out)) : gb821 ≠ gb801)); have n12_ := Aside0.mk ((by rw [hg]; exact Nat.ne_of_lt (blk_lt (g := gb819) (o := .cells #[.int .i64 t812, .string t813, .bool t814, .slice Ao37 t815.length co37] 28 (0, 0)) (by (with_reducible repeat (first | refine blk_drewN ?_ _ | refine blk_drew ?_ | refine blk_alloc ?_ _)); exact BK819.out)) : gb819 ≠ gb821)); have n13_ := Aside0.mk ((by rw [hg]; exact Nat.ne_of_gt (blk_lt (g := gb819) (o := .cells #[.int .i64 t812, .string t813, .bool t814, .slice Ao37 t815.length co37] 28 (0, 0)) (by (with_reducible repeat (first | refine blk_drewN ?_ _ | refine blk_drew ?_ | refine blk_alloc ?_ _)); exact BK819.out)) : gb821 ≠ gb819)); clear HO_10; clear HO_47; clear HO_802003; clear HO_820003; clear BK801; clear BK819; clear HB; have HO_10 := n0_; have HO_47 := n1_; have HO_802003 := n2_; have HO_820003 := n3_; have BK801 := n4_; have BK819 := n5_; have HB := n6_; have BK821 := n7_; have GW821 := n8_; have GE821 := n9_; have NB801_821 := n10_; have NB821_801 := n11_; have NB819_821 := n12_; have NB821_819 := n13_; clear n0_ n1_ n2_ n3_ n4_ n5_ n6_ n7_ n8_ n9_ n10_ n11_ n12_ n13_; clear hb hbox hg; have hnb48 := NB821_801.out; have hnc48 := NB801_821.out; have hnb49 := NB821_819.out; have hnc49 := NB819_821.out; have hcz50_0 : w47.cell? ⟨gb821, 0, none⟩ = some (.string (⟨#[]⟩ : ByteArray)) := (blk_cell BK821.out 0).trans rfl; have hcz50_1 : w47.cell? ⟨gb821, 1, none⟩ = some (.int .u16 0) := (blk_cell BK821.out 1).trans rfl; have hcz50_2 : w47.cell? ⟨gb821, 2, none⟩ = some (.int .u32 0) := (blk_cell BK821.out 2).trans rfl; have hcz50_3 : w47.cell? ⟨gb821, 3, none⟩ = some (.string (⟨#[]⟩ : ByteArray)) := (blk_cell BK821.out 3).trans rfl; have hfz50_0 := blk_frozen BK821.out 0; have hfz50_1 := blk_frozen BK821.out 1; have hfz50_2 := blk_frozen BK821.out 2; have hfz50_3 := blk_frozen BK821.out 3))
                        go_roundg k2
                        case measure => have := HJ7.out; have := HK2.out; omega
                        case rel => exact ⟨(true), (wrap64 (x49_2 + 1)), (by first | rfl | (simp; done) | (simp [*]; done)), (by first | rfl | (simp; done) | (simp [*]; done)), H', ⟨by have := HJ7.out; have := HK2.out; omega⟩, ⟨by (with_reducible repeat (first | apply Kd.R_alloc | apply Kd.R_drewN | apply Kd.R_drew)); exact Kd.R_mono (Kd.R_far (p := ⟨gb821, 3, none⟩) (Kd.R_far (p := ⟨gb821, 2, none⟩) (Kd.R_far (p := ⟨gb821, 1, none⟩) (Kd.R_far (p := ⟨gb821, 0, none⟩) (Kd.R_mono HO_10.out (fun k_ hk => (⟨hk, hk.2⟩ : _ ∧ k_ ≠ gb821))) (fun _ hk => hk.2) (.string ((rd_T43 t809 x49_2).f0))) (fun _ hk => hk.2) (.int .u16 ((rd_T43 t809 x49_2).f1))) (fun _ hk => hk.2) (.int .u32 ((rd_T43 t809 x49_2).f2))) (fun _ hk => hk.2) (.string ((rd_T43 t809 x49_2).f3))) (fun _ hk => ⟨hk.1.1.1, hk.1.1.2⟩)⟩, ⟨by (with_reducible repeat (first | apply Kd.R_alloc | apply Kd.R_drewN | apply Kd.R_drew)); exact Kd.R_mono (Kd.R_far (p := ⟨gb821, 3, none⟩) (Kd.R_far (p := ⟨gb821, 2, none⟩) (Kd.R_far (p := ⟨gb821, 1, none⟩) (Kd.R_far (p := ⟨gb821, 0, none⟩) (Kd.R_mono HO_47.out (fun k_ hk => (⟨hk, hk.2⟩ : _ ∧ k_ ≠ gb821))) (fun _ hk => hk.2) (.string ((rd_T43 t809 x49_2).f0))) (fun _ hk => hk.2) (.int .u16 ((rd_T43 t809 x49_2).f1))) (fun _ hk => hk.2) (.int .u32 ((rd_T43 t809 x49_2).f2))) (fun _ hk => hk.2) (.string ((rd_T43 t809 x49_2).f3))) (fun _ hk => ⟨hk.1.1.1, hk.1.1.2⟩)⟩, ⟨by (with_reducible repeat (first | apply Kd.R_alloc | apply Kd.R_drewN | apply Kd.R_drew)); exact Kd.R_mono (Kd.R_far (p := ⟨gb821, 3, none⟩) (Kd.R_far (p := ⟨gb821, 2, none⟩) (Kd.R_far (p := ⟨gb821, 1, none⟩) (Kd.R_far (p := ⟨gb821, 0, none⟩) (Kd.R_mono HO_802003.out (fun k_ hk => (⟨hk, hk.2⟩ : _ ∧ k_ ≠ gb821))) (fun _ hk => hk.2) (.string ((rd_T43 t809 x49_2).f0))) (fun _ hk => hk.2) (.int .u16 ((rd_T43 t809 x49_2).f1))) (fun _ hk => hk.2) (.int .u32 ((rd_T43 t809 x49_2).f2))) (fun _ hk => hk.2) (.string ((rd_T43 t809 x49_2).f3))) (fun _ hk => ⟨hk.1.1.1, ⟨hk.1.1.2.1, hk.1.1.2.2⟩⟩)⟩, ⟨by (with_reducible repeat (first | apply Kd.R_alloc | apply Kd.R_drewN | apply Kd.R_drew)); exact Kd.R_mono (Kd.R_far (p := ⟨gb821, 3, none⟩) (Kd.R_far (p := ⟨gb821, 2, none⟩) (Kd.R_far (p := ⟨gb821, 1, none⟩) (Kd.R_far (p := ⟨gb821, 0, none⟩) (Kd.R_mono HO_820003.out (fun k_ hk => (⟨hk, hk.2⟩ : _ ∧ k_ ≠ gb821))) (fun _ hk => hk.2) (.string ((rd_T43 t809 x49_2).f0))) (fun _ hk => hk.2) (.int .u16 ((rd_T43 t809 x49_2).f1))) (fun _ hk => hk.2) (.int .u32 ((rd_T43 t809 x49_2).f2))) (fun _ hk => hk.2) (.string ((rd_T43 t809 x49_2).f3))) (fun _ hk => ⟨hk.1.1.1, ⟨hk.1.1.2.1, hk.1.1.2.2⟩⟩)⟩, ⟨by (with_reducible repeat (first | refine blk_drewN ?_ _ | refine blk_drew ?_ | refine blk_alloc ?_ _)); refine blk_far ?_ NB801_821.out _; (with_reducible repeat (first | refine blk_drewN ?_ _ | refine blk_drew ?_ | refine blk_alloc ?_ _)); refine blk_far ?_ NB801_821.out _; (with_reducible repeat (first | refine blk_drewN ?_ _ | refine blk_drew ?_ | refine blk_alloc ?_ _)); refine blk_far ?_ NB801_821.out _; (with_reducible repeat (first | refine blk_drewN ?_ _ | refine blk_drew ?_ | refine blk_alloc ?_ _)); refine blk_far ?_ NB801_821.out _; (with_reducible repeat (first | refine blk_drewN ?_ _ | refine blk_drew ?_ | refine blk_alloc ?_ _)); exact BK801.out⟩, ⟨by (with_reducible repeat (first | refine blk_drewN ?_ _ | refine blk_drew ?_ | refine blk_alloc ?_ _)); refine blk_far ?_ NB819_821.out _; (with_reducible repeat (first | refine blk_drewN ?_ _ | refine blk_drew ?_ | refine blk_alloc ?_ _)); refine blk_far ?_ NB819_821.out _; (with_reducible repeat (first | refine blk_drewN ?_ _ | refine blk_drew ?_ | refine blk_alloc ?_ _)); refine blk_far ?_ NB819_821.out _; (with_reducible repeat (first | refine blk_drewN ?_ _ | refine blk_drew ?_ | refine blk_alloc ?_ _)); refine blk_far ?_ NB819_821.out _; (with_reducible repeat (first | refine blk_drewN ?_ _ | refine blk_drew ?_ | refine blk_alloc ?_ _)); exact BK819.out⟩, ⟨by repeat (first | (with_reducible first | exact HB.out | apply below_alloc | apply pw_below_drewN | apply below_drew1 | refine below_set ?_ GE801.out | refine below_set ?_ GE819.out | refine below_set ?_ GE821.out) | exact HB.out)⟩⟩
                      · rw [if_neg c46] at H
                        have c46b0 : (((rd_T43 t809 x49_2).f1) == 6) = false := beq_eq_false_iff_ne.mpr c46
                        have c46b1 : (((rd_T43 t809 x49_2).f1) != 6) = true := bne_iff_ne.mpr c46
                        by_cases c51 : ((rd_T43 t809 x49_2).f1) = 2
                        · rw [if_pos c51] at H
                          have c51b0 : (((rd_T43 t809 x49_2).f1) == 2) = true := beq_iff_eq.mpr c51
                          have c51b1 : (((rd_T43 t809 x49_2).f1) != 2) = false := bne_eq_false_iff_eq.mpr c51
                          clear c51
                          have H' := Aside0.mk H
                          clear H
                          have p820 : 0 ≤ (x49_2 : Int) := of_decide_eq_true (by first | (with_reducible assumption) | assumption)
                          have q820 : x49_2 < (t809.length : Int) := of_decide_eq_true (by first | (with_reducible assumption) | assumption)
                          obtain ⟨ad820, e820, hx820_0, hx820_1, hx820_2, hx820_3⟩ := at_T43 (Kd.R_reads' HO_47.out).2.2 x49_2 p820 q820
                          cases e820
                          replace p820 := eq_true p820
                          replace q820 := eq_true q820
                          go_wp2_with (first | ((with_reducible refine gate_dst (N := 15) rfl ?_); (try (refine gate_guard (by rfl) ?_; dsimp only)); refine box_event ?hg (N := 15) ?hd (cs := #[.string (⟨#[]⟩ : ByteArray), .int .u16 0, .int .u32 0, .string (⟨#[]⟩ : ByteArray)]) (t := 43) ?hr ?_; (case hd => rfl); (case hg => rfl); (case hr => first | (go_simp; done) | (go_simp; rfl)); intro gb821 hg w52 hbox hb; have n0_ := Aside0.mk (Kd.R_below (Kd.R_elderB (by (with_reducible repeat (first | apply Kd.R_alloc | apply Kd.R_drewN | apply Kd.R_drew)); exact HO_10.out) gb821 (Nat.le_of_eq hg.symm)) hb); have n1_ := Aside0.mk (Kd.R_below (Kd.R_elderB (by (with_reducible repeat (first | apply Kd.R_alloc | apply Kd.R_drewN | apply Kd.R_drew)); exact HO_47.out) gb821 (Nat.le_of_eq hg.symm)) hb); have n2_ := Aside0.mk (Kd.R_below (Kd.R_elderB (by (with_reducible repeat (first | apply Kd.R_alloc | apply Kd.R_drewN | apply Kd.R_drew)); exact HO_802003.out) gb821 (Nat.le_of_eq hg.symm)) hb); have n3_ := Aside0.mk (Kd.R_below (Kd.R_elderB (by (with_reducible repeat (first | apply Kd.R_alloc | apply Kd.R_drewN | apply Kd.R_drew)); exact HO_820003.out) gb821 (Nat.le_of_eq hg.symm)) hb); have n4_ := Aside0.mk (blk_below (g := gb801) (o := .cells #[.int .i64 t794, .string t795, .bool t796, .slice Ao17 t797.length co17] 28 (0, 0)) (by (with_reducible repeat (first | refine blk_drewN ?_ _ | refine blk_drew ?_ | refine blk_alloc ?_ _)); exact BK801.out) hb); have n5_ := Aside0.mk (blk_below (g := gb819) (o := .cells #[.int .i64 t812, .string t813, .bool t814, .slice Ao37 t815.length co37] 28 (0, 0)) (by (with_reducible repeat (first | refine blk_drewN ?_ _ | refine blk_drew ?_ | refine blk_alloc ?_ _)); exact BK819.out) hb); have n6_ := Aside0.mk (below_step (by repeat (first | (with_reducible first | exact HB.out | apply below_alloc | apply pw_below_drewN | apply below_drew1 | refine below_set ?_ GE801.out | refine below_set ?_ GE819.out) | exact HB.out)) hb); have n7_ := Aside0.mk (hbox); have n8_ := Aside0.mk ((by rw [hg]; exact (below_size (by repeat (first | (with_reducible first | exact HB.out | apply below_alloc | apply pw_below_drewN | apply below_drew1 | refine below_set ?_ GE801.out | refine below_set ?_ GE819.out) | exact HB.out))) : w.heap.size ≤ gb821)); have n9_ := Aside0.mk ((by rw [hg]; exact (below_size (by repeat (first | (with_reducible first | exact HB.out | apply below_alloc | apply pw_below_drewN | apply below_drew1 | refine below_set ?_ GE801.out | refine below_set ?_ GE819.out) | exact HB.out))) : w.heap.size ≤ gb821)); have n10_ := Aside0.mk ((by rw [hg]; exact Nat.ne_of_lt (blk_lt (g := gb801) (o := .cells #[.int .i64 t794, .string t795, .bool t796, .slice Ao17 t797.length co17] 28 (0, 0)) (by (with_reducible repeat (first | refine blk_drewN ?_ _ | refine blk_drew ?_ | refine blk_alloc ?_ _)); exact BK801.out)) : gb801 ≠ gb821)); have n11_ := Aside0.mk ((by rw [hg]; exact Nat.ne_of_gt (blk_lt (g := gb801) (o := .cells #[.int .i64 t794, .string t795, .bool t796, .slice Ao17 t797.length co17] 28 (0, 0)) (by (with_reducible repeat (first | refine blk_drewN ?_ _ | refine blk_drew ?_ | refine blk_alloc ?_ _)); exact BK801.out)) : gb821 ≠ gb801)); have n12_ := Aside0.mk ((by rw [hg]; exact Nat.ne_of_lt (blk_lt (g := gb819) (o := .cells #[.int .i64 t812, .string t813, .bool t814, .slice Ao37 t815.length co37] 28 (0, 0)) (by (with_reducible repeat (first | refine blk_drewN ?_ _ | refine blk_drew ?_ | refine blk_alloc ?_ _)); exact BK819.out)) : gb819 ≠ gb821)); have n13_ := Aside0.mk ((by rw [hg]; exact Nat.ne_of_gt (blk_lt (g := gb819) (o := .cells #[.int .i64 t812, .string t813, .bool t814, .slice Ao37 t815.length co37] 28 (0, 0)) (by (with_reducible repeat (first | refine blk_drewN ?_ _ | refine blk_drew ?_ | refine blk_alloc ?_ _)); exact BK819.out)) : gb821 ≠ gb819)); clear HO_10; clear HO_47; clear HO_802003; clear HO_820003; clear BK801; clear BK819; clear HB; have HO_10 := n0_; have HO_47 := n1_; have HO_802003 := n2_; have HO_820003 := n3_; have BK801 := n4_; have BK819 := n5_; have HB := n6_; have BK821 := n7_; have GW821 := n8_; have GE821 := n9_; have NB801_821 := n10_; have NB821_801 := n11_; have NB819_821 := n12_; have NB821_819 := n13_; clear n0_ n1_ n2_ n3_ n4_ n5_ n6_ n7_ n8_ n9_ n10_ n11_ n12_ n13_; clear hb hbox hg; have hnb53 := NB821_801.out; have hnc53 := NB801_821.out; have hnb54 := NB821_819.out; have hnc54 := NB819_821.out; have hcz55_0 : w52.cell? ⟨gb821, 0, none⟩ = some (.string (⟨#[]⟩ : ByteArray)) := (blk_cell BK821.out 0).trans rfl; have hcz55_1 : w52.cell? ⟨gb821, 1, none⟩ = some (.int .u16 0) := (blk_cell BK821.out 1).trans rfl; have hcz55_2 : w52.cell? ⟨gb821, 2, none⟩ = some (.int .u32 0) := (blk_cell BK821.out 2).trans rfl; have hcz55_3 : w52.cell? ⟨gb821, 3, none⟩ = some (.string (⟨#[]⟩ : ByteArray)) := (blk_cell BK821.out 3).trans rfl; have hfz55_0 := blk_frozen BK821.out 0; have hfz55_1 := blk_frozen BK821.out 1; have hfz55_2 := blk_frozen BK821.out 2; have hfz55_3 := blk_frozen BK821.out 3))
                          go_roundg k2
                          case measure => have := HJ7.out; have := HK2.out; omega
                          case rel => exact ⟨(true), (wrap64 (x49_2 + 1)), (by first | rfl | (simp; done) | (simp [*]; done)), (by first | rfl | (simp; done) | (simp [*]; done)), H', ⟨by have := HJ7.out; have := HK2.out; omega⟩, ⟨by (with_reducible repeat (first | apply Kd.R_alloc | apply Kd.R_drewN | apply Kd.R_drew)); exact Kd.R_mono (Kd.R_far (p := ⟨gb821, 3, none⟩) (Kd.R_far (p := ⟨gb821, 2, none⟩) (Kd.R_far (p := ⟨gb821, 1, none⟩) (Kd.R_far (p := ⟨gb821, 0, none⟩) (Kd.R_mono HO_10.out (fun k_ hk => (⟨hk, hk.2⟩ : _ ∧ k_ ≠ gb821))) (fun _ hk => hk.2) (.string ((rd_T43 t809 x49_2).f0))) (fun _ hk => hk.2) (.int .u16 ((rd_T43 t809 x49_2).f1))) (fun _ hk => hk.2) (.int .u32 ((rd_T43 t809 x49_2).f2))) (fun _ hk => hk.2) (.string ((rd_T43 t809 x49_2).f3))) (fun _ hk => ⟨hk.1.1.1, hk.1.1.2⟩)⟩, ⟨by (with_reducible repeat (first | apply Kd.R_alloc | apply Kd.R_drewN | apply Kd.R_drew)); exact Kd.R_mono (Kd.R_far (p := ⟨gb821, 3, none⟩) (Kd.R_far (p := ⟨gb821, 2, none⟩) (Kd.R_far (p := ⟨gb821, 1, none⟩) (Kd.R_far (p := ⟨gb821, 0, none⟩) (Kd.R_mono HO_47.out (fun k_ hk => (⟨hk, hk.2⟩ : _ ∧ k_ ≠ gb821))) (fun _ hk => hk.2) (.string ((rd_T43 t809 x49_2).f0))) (fun _ hk => hk.2) (.int .u16 ((rd_T43 t809 x49_2).f1))) (fun _ hk => hk.2) (.int .u32 ((rd_T43 t809 x49_2).f2))) (fun _ hk => hk.2) (.string ((rd_T43 t809 x49_2).f3))) (fun _ hk => ⟨hk.1.1.1, hk.1.1.2⟩)⟩, ⟨by (with_reducible repeat (first | apply Kd.R_alloc | apply Kd.R_drewN | apply Kd.R_drew)); exact Kd.R_mono (Kd.R_far (p := ⟨gb821, 3, none⟩) (Kd.R_far (p := ⟨gb821, 2, none⟩) (Kd.R_far (p := ⟨gb821, 1, none⟩) (Kd.R_far (p := ⟨gb821, 0, none⟩) (Kd.R_mono HO_802003.out (fun k_ hk => (⟨hk, hk.2⟩ : _ ∧ k_ ≠ gb821))) (fun _ hk => hk.2) (.string ((rd_T43 t809 x49_2).f0))) (fun _ hk => hk.2) (.int .u16 ((rd_T43 t809 x49_2).f1))) (fun _ hk => hk.2) (.int .u32 ((rd_T43 t809 x49_2).f2))) (fun _ hk => hk.2) (.string ((rd_T43 t809 x49_2).f3))) (fun _ hk => ⟨hk.1.1.1, ⟨hk.1.1.2.1, hk.1.1.2.2⟩⟩)⟩, ⟨by (with_reducible repeat (first | apply Kd.R_alloc | apply Kd.R_drewN | apply Kd.R_drew)); exact Kd.R_mono (Kd.R_far (p := ⟨gb821, 3, none⟩) (Kd.R_far (p := ⟨gb821, 2, none⟩) (Kd.R_far (p := ⟨gb821, 1, none⟩) (Kd.R_far (p := ⟨gb821, 0, none⟩) (Kd.R_mono HO_820003.out (fun k_ hk => (⟨hk, hk.2⟩ : _ ∧ k_ ≠ gb821))) (fun _ hk => hk.2) (.string ((rd_T43 t809 x49_2).f0))) (fun _ hk => hk.2) (.int .u16 ((rd_T43 t809 x49_2).f1))) (fun _ hk => hk.2) (.int .u32 ((rd_T43 t809 x49_2).f2))) (fun _ hk => hk.2) (.string ((rd_T43 t809 x49_2).f3))) (fun _ hk => ⟨hk.1.1.1, ⟨hk.1.1.2.1, hk.1.1.2.2⟩⟩)⟩, ⟨by (with_reducible repeat (first | refine blk_drewN ?_ _ | refine blk_drew ?_ | refine blk_alloc ?_ _)); refine blk_far ?_ NB801_821.out _; (with_reducible repeat (first | refine blk_drewN ?_ _ | refine blk_drew ?_ | refine blk_alloc ?_ _)); refine blk_far ?_ NB801_821.out _; (with_reducible repeat (first | refine blk_drewN ?_ _ | refine blk_drew ?_ | refine blk_alloc ?_ _)); refine blk_far ?_ NB801_821.out _; (with_reducible repeat (first | refine blk_drewN ?_ _ | refine blk_drew ?_ | refine blk_alloc ?_ _)); refine blk_far ?_ NB801_821.out _; (with_reducible repeat (first | refine blk_drewN ?_ _ | refine blk_drew ?_ | refine blk_alloc ?_ _)); exact BK801.out⟩, ⟨by (with_reducible repeat (first | refine blk_drewN ?_ _ | refine blk_drew ?_ | refine blk_alloc ?_ _)); refine blk_far ?_ NB819_821.out _; (with_reducible repeat (first | refine blk_drewN ?_ _ | refine blk_drew ?_ | refine blk_alloc ?_ _)); refine blk_far ?_ NB819_821.out _; (with_reducible repeat (first | refine blk_drewN ?_ _ | refine blk_drew ?_ | refine blk_alloc ?_ _)); refine blk_far ?_ NB819_821.out _; (with_reducible repeat (first | refine blk_drewN ?_ _ | refine blk_drew ?_ | refine blk_alloc ?_ _)); refine blk_far ?_ NB819_821.out _; (with_reducible repeat (first | refine blk_drewN ?_ _ | refine blk_drew ?_ | refine blk_alloc ?_ _)); exact BK819.out⟩, ⟨by repeat (first | (with_reducible first | exact HB.out | apply below_alloc | apply pw_below_drewN | apply below_drew1 | refine below_set ?_ GE801.out | refine below_set ?_ GE819.out | refine below_set ?_ GE821.out) | exact HB.out)⟩⟩
                        · rw [if_neg c51] at H
                          have c51b0 : (((rd_T43 t809 x49_2).f1) == 2) = false := beq_eq_false_iff_ne.mpr c51
                          have c51b1 : (((rd_T43 t809 x49_2).f1) != 2) = true := bne_iff_ne.mpr c51
                          by_cases c56 : ((rd_T43 t809 x49_2).f1) = 5
                          · rw [if_pos c56] at H
                            have c56b0 : (((rd_T43 t809 x49_2).f1) == 5) = true := beq_iff_eq.mpr c56
                            have c56b1 : (((rd_T43 t809 x49_2).f1) != 5) = false := bne_eq_false_iff_eq.mpr c56
                            clear c56
                            have H' := Aside0.mk H
                            clear H
                            have p820 : 0 ≤ (x49_2 : Int) := of_decide_eq_true (by first | (with_reducible assumption) | assumption)
                            have q820 : x49_2 < (t809.length : Int) := of_decide_eq_true (by first | (with_reducible assumption) | assumption)
                            obtain ⟨ad820, e820, hx820_0, hx820_1, hx820_2, hx820_3⟩ := at_T43 (Kd.R_reads' HO_47.out).2.2 x49_2 p820 q820
                            cases e820
                            replace p820 := eq_true p820
                            replace q820 := eq_true q820
                            go_wp2_with (first | ((with_reducible refine gate_dst (N := 15) rfl ?_); (try (refine gate_guard (by rfl) ?_; dsimp only)); refine box_event ?hg (N := 15) ?hd (cs := #[.string (⟨#[]⟩ : ByteArray), .int .u16 0, .int .u32 0, .string (⟨#[]⟩ : ByteArray)]) (t := 43) ?hr ?_; (case hd => rfl); (case hg => rfl); (case hr => first | (go_simp; done) | (go_simp; rfl)); intro gb821 hg w57 hbox hb; have n0_ := Aside0.mk (Kd.R_below (Kd.R_elderB (by (with_reducible repeat (first | apply Kd.R_alloc | apply Kd.R_drewN | apply Kd.R_drew)); exact HO_10.out) gb821 (Nat.le_of_eq hg.symm)) hb); have n1_ := Aside0.mk (Kd.R_below (Kd.R_elderB (by (with_reducible repeat (first | apply Kd.R_alloc | apply Kd.R_drewN | apply Kd.R_drew)); exact HO_47.out) gb821 (Nat.le_of_eq hg.symm)) hb); have n2_ := Aside0.mk (Kd.R_below (Kd.R_elderB (by (with_reducible repeat (first | apply Kd.R_alloc | apply Kd.R_drewN | apply Kd.R_drew)); exact HO_802003.out) gb821 (Nat.le_of_eq hg.symm)) hb); have n3_ := Aside0.mk (Kd.R_below (Kd.R_elderB (by (with_reducible repeat (first | apply Kd.R_alloc | apply Kd.R_drewN | apply Kd.R_drew)); exact HO_820003.out) gb821 (Nat.le_of_eq hg.symm)) hb); have n4_ := Aside0.mk (blk_below (g := gb801) (o := .cells #[.int .i64 t794, .string t795, .bool t796, .slice Ao17 t797.length co17] 28 (0, 0)) (by (with_reducible repeat (first | refine blk_drewN ?_ _ | refine blk_drew ?_ | refine blk_alloc ?_ _)); exact BK801.out) hb); have n5_ := Aside0.mk (blk_below (g := gb819) (o := .cells #[.int .i64 t812, .string t813, .bool t814, .slice Ao37 t815.length co37] 28 (0, 0)) (by (with_reducible repeat (first | refine blk_drewN ?_ _ | refine blk_drew ?_ | refine blk_alloc ?_ _)); exact BK819.out) hb); have n6_ := Aside0.mk (below_step (by repeat (first | (with_reducible first | exact HB.out | apply below_alloc | apply pw_below_drewN | apply below_drew1 | refine below_set ?_ GE801.out | refine below_set ?_ GE819.out) | exact HB.out)) hb); have n7_ := Aside0.mk (hbox); have n8_ := Aside0.mk ((by rw [hg]; exact (below_size (by repeat (first | (with_reducible first | exact HB.out | apply below_alloc | apply pw_below_drewN | apply below_drew1 | refine below_set ?_ GE801.out | refine below_set ?_ GE819.out) | exact HB.out))) : w.heap.size ≤ gb821)); have n9_ := Aside0.mk ((by rw [hg]; exact (below_size (by repeat (first | (with_reducible first | exact HB.out | apply below_alloc | apply pw_below_drewN | apply below_drew1 | refine below_set ?_ GE801.out | refine below_set ?_ GE819.out) | exact HB.out))) : w.heap.size ≤ gb821)); have n10_ := Aside0.mk ((by rw [hg]; exact Nat.ne_of_lt (blk_lt (g := gb801) (o := .cells #[.int .i64 t794, .string t795, .bool t796, .slice Ao17 t797.length co17] 28 (0, 0)) (by (with_reducible repeat (first | refine blk_drewN ?_ _ | refine blk_drew ?_ | refine blk_alloc ?_ _)); exact BK801.out)) : gb801 ≠ gb821)); have n11_ := Aside0.mk ((by rw [hg]; exact Nat.ne_of_gt (blk_lt (g := gb801) (o := .cells #[.int .i64 t794, .string t795, .bool t796, .slice Ao17 t797.length co17] 28 (0, 0)) (by (with_reducible repeat (first | refine blk_drewN ?_ _ | refine blk_drew ?_ | refine blk_alloc ?_ _)); exact BK801.out)) : gb821 ≠ gb801)); have n12_ := Aside0.mk ((by rw [hg]; exact Nat.ne_of_lt (blk_lt (g := gb819) (o := .cells #[.int .i64 t812, .string t813, .bool t814, .slice Ao37 t815.length co37] 28 (0, 0)) (by (with_reducible repeat (first | refine blk_drewN ?_ _ | refine blk_drew ?_ | refine blk_alloc ?_ _)); exact BK819.out)) : gb819 ≠ gb821)); have n13_ := Aside0.mk ((by rw [hg]; exact Nat.ne_of_gt (blk_lt (g := gb819) (o := .cells #[.int .i64 t812, .string t813, .bool t814, .slice Ao37 t815.length co37] 28 (0, 0)) (by (with_reducible repeat (first | refine blk_drewN ?_ _ | refine blk_drew ?_ | refine blk_alloc ?_ _)); exact BK819.out)) : gb821 ≠ gb819)); clear HO_10; clear HO_47; clear HO_802003; clear HO_820003; clear BK801; clear BK819; clear HB; have HO_10 := n0_; have HO_47 := n1_; have HO_802003 := n2_; have HO_820003 := n3_; have BK801 := n4_; have BK819 := n5_; have HB := n6_; have BK821 := n7_; have GW821 := n8_; have GE821 := n9_; have NB801_821 := n10_; have NB821_801 := n11_; have NB819_821 := n12_; have NB821_819 := n13_; clear n0_ n1_ n2_ n3_ n4_ n5_ n6_ n7_ n8_ n9_ n10_ n11_ n12_ n13_; clear hb hbox hg; have hnb58 := NB821_801.out; have hnc58 := NB801_821.out; have hnb59 := NB821_819.out; have hnc59 := NB819_821.out; have hcz60_0 : w57.cell? ⟨gb821, 0, none⟩ = some (.string (⟨#[]⟩ : ByteArray)) := (blk_cell BK821.out 0).trans rfl; have hcz60_1 : w57.cell? ⟨gb821, 1, none⟩ = some (.int .u16 0) := (blk_cell BK821.out 1).trans rfl; have hcz60_2 : w57.cell? ⟨gb821, 2, none⟩ = some (.int .u32 0) := (blk_cell BK821.out 2).trans rfl; have hcz60_3 : w57.cell? ⟨gb821, 3, none⟩ = some (.string (⟨#[]⟩ : ByteArray)) := (blk_cell BK821.out 3).trans rfl; have hfz60_0 := blk_frozen BK821.out 0; have hfz60_1 := blk_frozen BK821.out 1; have hfz60_2 := blk_frozen BK821.out 2; have hfz60_3 := blk_frozen BK821.out 3))
                            go_roundg k2
                            case measure => have := HJ7.out; have := HK2.out; omega
                            case rel => exact ⟨(decide ((t809.length : Int) > 1)), (wrap64 (x49_2 + 1)), (by first | rfl | (simp; done) | (simp [*]; done)), (by first | rfl | (simp; done) | (simp [*]; done)), H', ⟨by have := HJ7.out; have := HK2.out; omega⟩, ⟨by (with_reducible repeat (first | apply Kd.R_alloc | apply Kd.R_drewN | apply Kd.R_drew)); exact Kd.R_mono (Kd.R_far (p := ⟨gb821, 3, none⟩) (Kd.R_far (p := ⟨gb821, 2, none⟩) (Kd.R_far (p := ⟨gb821, 1, none⟩) (Kd.R_far (p := ⟨gb821, 0, none⟩) (Kd.R_mono HO_10.out (fun k_ hk => (⟨hk, hk.2⟩ : _ ∧ k_ ≠ gb821))) (fun _ hk => hk.2) (.string ((rd_T43 t809 x49_2).f0))) (fun _ hk => hk.2) (.int .u16 ((rd_T43 t809 x49_2).f1))) (fun _ hk => hk.2) (.int .u32 ((rd_T43 t809 x49_2).f2))) (fun _ hk => hk.2) (.string ((rd_T43 t809 x49_2).f3))) (fun _ hk => ⟨hk.1.1.1, hk.1.1.2⟩)⟩, ⟨by (with_reducible repeat (first | apply Kd.R_alloc | apply Kd.R_drewN | apply Kd.R_drew)); exact Kd.R_mono (Kd.R_far (p := ⟨gb821, 3, none⟩) (Kd.R_far (p := ⟨gb821, 2, none⟩) (Kd.R_far (p := ⟨gb821, 1, none⟩) (Kd.R_far (p := ⟨gb821, 0, none⟩) (Kd.R_mono HO_47.out (fun k_ hk => (⟨hk, hk.2⟩ : _ ∧ k_ ≠ gb821))) (fun _ hk => hk.2) (.string ((rd_T43 t809 x49_2).f0))) (fun _ hk => hk.2) (.int .u16 ((rd_T43 t809 x49_2).f1))) (fun _ hk => hk.2) (.int .u32 ((rd_T43 t809 x49_2).f2))) (fun _ hk => hk.2) (.string ((rd_T43 t809 x49_2).f3))) (fun _ hk => ⟨hk.1.1.1, hk.1.1.2⟩)⟩, ⟨by (with_reducible repeat (first | apply Kd.R_alloc | apply Kd.R_drewN | apply Kd.R_drew)); exact Kd.R_mono (Kd.R_far (p := ⟨gb821, 3, none⟩) (Kd.R_far (p := ⟨gb821, 2, none⟩) (Kd.R_far (p := ⟨gb821, 1, none⟩) (Kd.R_far (p := ⟨gb821, 0, none⟩) (Kd.R_mono HO_802003.out (fun k_ hk => (⟨hk, hk.2⟩ : _ ∧ k_ ≠ gb821))) (fun _ hk => hk.2) (.string ((rd_T43 t809 x49_2).f0))) (fun _ hk => hk.2) (.int .u16 ((rd_T43 t809 x49_2).f1))) (fun _ hk => hk.2) (.int .u32 ((rd_T43 t809 x49_2).f2))) (fun _ hk => hk.2) (.string ((rd_T43 t809 x49_2).f3))) (fun _ hk => ⟨hk.1.1.1, ⟨hk.1.1.2.1, hk.1.1.2.2⟩⟩)⟩, ⟨by (with_reducible repeat (first | apply Kd.R_alloc | apply Kd.R_drewN | apply Kd.R_drew)); exact Kd.R_mono (Kd.R_far (p := ⟨gb821, 3, none⟩) (Kd.R_far (p := ⟨gb821, 2, none⟩) (Kd.R_far (p := ⟨gb821, 1, none⟩) (Kd.R_far (p := ⟨gb821, 0, none⟩) (Kd.R_mono HO_820003.out (fun k_ hk => (⟨hk, hk.2⟩ : _ ∧ k_ ≠ gb821))) (fun _ hk => hk.2) (.string ((rd_T43 t809 x49_2).f0))) (fun _ hk => hk.2) (.int .u16 ((rd_T43 t809 x49_2).f1))) (fun _ hk => hk.2) (.int .u32 ((rd_T43 t809 x49_2).f2))) (fun _ hk => hk.2) (.string ((rd_T43 t809 x49_2).f3))) (fun _ hk => ⟨hk.1.1.1, ⟨hk.1.1.2.1, hk.1.1.2.2⟩⟩)⟩, ⟨by (with_reducible repeat (first | refine blk_drewN ?_ _ | refine blk_drew ?_ | refine blk_alloc ?_ _)); refine blk_far ?_ NB801_821.out _; (with_reducible repeat (first | refine blk_drewN ?_ _ | refine blk_drew ?_ | refine blk_alloc ?_ _)); refine blk_far ?_ NB801_821.out _; (with_reducible repeat (first | refine blk_drewN ?_ _ | refine blk_drew ?_ | refine blk_alloc ?_ _)); refine blk_far ?_ NB801_821.out _; (with_reducible repeat (first | refine blk_drewN ?_ _ | refine blk_drew ?_ | refine blk_alloc ?_ _)); refine blk_far ?_ NB801_821.out _; (with_reducible repeat (first | refine blk_drewN ?_ _ | refine blk_drew ?_ | refine blk_alloc ?_ _)); exact BK801.out⟩, ⟨by (with_reducible repeat (first | refine blk_drewN ?_ _ | refine blk_drew ?_ | refine blk_alloc ?_ _)); refine blk_far ?_ NB819_821.out _; (with_reducible repeat (first | refine blk_drewN ?_ _ | refine blk_drew ?_ | refine blk_alloc ?_ _)); refine blk_far ?_ NB819_821.out _; (with_reducible repeat (first | refine blk_drewN ?_ _ | refine blk_drew ?_ | refine blk_alloc ?_ _)); refine blk_far ?_ NB819_821.out _; (with_reducible repeat (first | refine blk_drewN ?_ _ | refine blk_drew ?_ | refine blk_alloc ?_ _)); refine blk_far ?_ NB819_821.out _; (with_reducible repeat (first | refine blk_drewN ?_ _ | refine blk_drew ?_ | refine blk_alloc ?_ _)); exact BK819.out⟩, ⟨by repeat (first | (with_reducible first | exact HB.out | apply below_alloc | apply pw_below_drewN | apply below_drew1 | refine below_set ?_ GE801.out | refine below_set ?_ GE819.out | refine below_set ?_ GE821.out) | exact HB.out)⟩⟩
                          · rw [if_neg c56] at H
                            have c56b0 : (((rd_T43 t809 x49_2).f1) == 5) = false := beq_eq_false_iff_ne.mpr c56
                            have c56b1 : (((rd_T43 t809 x49_2).f1) != 5) = true := bne_iff_ne.mpr c56
                            have H' := Aside0.mk H
                            clear H
                            have p820 : 0 ≤ (x49_2 : Int) := of_decide_eq_true (by first | (with_reducible assumption) | assumption)
                            have q820 : x49_2 < (t809.length : Int) := of_decide_eq_true (by first | (with_reducible assumption) | assumption)
                            obtain ⟨ad820, e820, hx820_0, hx820_1, hx820_2, hx820_3⟩ := at_T43 (Kd.R_reads' HO_47.out).2.2 x49_2 p820 q820
                            cases e820
                            replace p820 := eq_true p820
                            replace q820 := eq_true q820
                            go_wp2_with (first | ((with_reducible refine gate_dst (N := 15) rfl ?_); (try (refine gate_guard (by rfl) ?_; dsimp only)); refine box_event ?hg (N := 15) ?hd (cs := #[.string (⟨#[]⟩ : ByteArray), .int .u16 0, .int .u32 0, .string (⟨#[]⟩ : ByteArray)]) (t := 43) ?hr ?_; (case hd => rfl); (case hg => rfl); (case hr => first | (go_simp; done) | (go_simp; rfl)); intro gb821 hg w61 hbox hb; have n0_ := Aside0.mk (Kd.R_below (Kd.R_elderB (by (with_reducible repeat (first | apply Kd.R_alloc | apply Kd.R_drewN | apply Kd.R_drew)); exact HO_10.out) gb821 (Nat.le_of_eq hg.symm)) hb); have n1_ := Aside0.mk (Kd.R_below (Kd.R_elderB (by (with_reducible repeat (first | apply Kd.R_alloc | apply Kd.R_drewN | apply Kd.R_drew)); exact HO_47.out) gb821 (Nat.le_of_eq hg.symm)) hb); have n2_ := Aside0.mk (Kd.R_below (Kd.R_elderB (by (with_reducible repeat (first | apply Kd.R_alloc | apply Kd.R_drewN | apply Kd.R_drew)); exact HO_802003.out) gb821 (Nat.le_of_eq hg.symm)) hb); have n3_ := Aside0.mk (Kd.R_below (Kd.R_elderB (by (with_reducible repeat (first | apply Kd.R_alloc | apply Kd.R_drewN | apply Kd.R_drew)); exact HO_820003.out) gb821 (Nat.le_of_eq hg.symm)) hb); have n4_ := Aside0.mk (blk_below (g := gb801) (o := .cells #[.int .i64 t794, .string t795, .bool t796, .slice Ao17 t797.length co17] 28 (0, 0)) (by (with_reducible repeat (first | refine blk_drewN ?_ _ | refine blk_drew ?_ | refine blk_alloc ?_ _)); exact BK801.out) hb); have n5_ := Aside0.mk (blk_below (g := gb819) (o := .cells #[.int .i64 t812, .string t813, .bool t814, .slice Ao37 t815.length co37] 28 (0, 0)) (by (with_reducible repeat (first | refine blk_drewN ?_ _ | refine blk_drew ?_ | refine blk_alloc ?_ _)); exact BK819.out) hb); have n6_ := Aside0.mk (below_step (by repeat (first | (with_reducible first | exact HB.out | apply below_alloc | apply pw_below_drewN | apply below_drew1 | refine below_set ?_ GE801.out | refine below_set ?_ GE819.out) | exact HB.out)) hb); have n7_ := Aside0.mk (hbox); have n8_ := Aside0.mk ((by rw [hg]; exact (below_size (by repeat (first | (with_reducible first | exact HB.out | apply below_alloc | apply pw_below_drewN | apply below_drew1 | refine below_set ?_ GE801.out | refine below_set ?_ GE819.out) | exact HB.out))) : w.heap.size ≤ gb821)); have n9_ := Aside0.mk ((by rw [hg]; exact (below_size (by repeat (first | (with_reducible first | exact HB.out | apply below_alloc | apply pw_below_drewN | apply below_drew1 | refine below_set ?_ GE801.out | refine below_set ?_ GE819.out) | exact HB.out))) : w.heap.size ≤ gb821)); have n10_ := Aside0.mk ((by rw [hg]; exact Nat.ne_of_lt (blk_lt (g := gb801) (o := .cells #[.int .i64 t794, .string t795, .bool t796, .slice Ao17 t797.length co17] 28 (0, 0)) (by (with_reducible repeat (first | refine blk_drewN ?_ _ | refine blk_drew ?_ | refine blk_alloc ?_ _)); exact BK801.out)) : gb801 ≠ gb821)); have n11_ := Aside0.mk ((by rw [hg]; exact Nat.ne_of_gt (blk_lt (g := gb801) (o := .cells #[.int .i64 t794, .string t795, .bool t796, .slice Ao17 t797.length co17] 28 (0, 0)) (by (with_reducible repeat (first | refine blk_drewN ?_ _ | refine blk_drew ?_ | refine blk_alloc ?_ _)); exact BK801.out)) : gb821 ≠ gb801)); have n12_ := Aside0.mk ((by rw [hg]; exact Nat.ne_of_lt (blk_lt (g := gb819) (o := .cells #[.int .i64 t812, .string t813, .bool t814, .slice Ao37 t815.length co37] 28 (0, 0)) (by (with_reducible repeat (first | refine blk_drewN ?_ _ | refine blk_drew ?_ | refine blk_alloc ?_ _)); exact BK819.out)) : gb819 ≠ gb821)); have n13_ := Aside0.mk ((by rw [hg]; exact Nat.ne_of_gt (blk_lt (g := gb819) (o := .cells #[.int .i64 t812, .string t813, .bool t814, .slice Ao37 t815.length co37] 28 (0, 0)) (by (with_reducible repeat (first | refine blk_drewN ?_ _ | refine blk_drew ?_ | refine blk_alloc ?_ _)); exact BK819.out)) : gb821 ≠ gb819)); clear HO_10; clear HO_47; clear HO_802003; clear HO_820003; clear BK801; clear BK819; clear HB; have HO_10 := n0_; have HO_47 := n1_; have HO_802003 := n2_; have HO_820003 := n3_; have BK801 := n4_; have BK819 := n5_; have HB := n6_; have BK821 := n7_; have GW821 := n8_; have GE821 := n9_; have NB801_821 := n10_; have NB821_801 := n11_; have NB819_821 := n12_; have NB821_819 := n13_; clear n0_ n1_ n2_ n3_ n4_ n5_ n6_ n7_ n8_ n9_ n10_ n11_ n12_ n13_; clear hb hbox hg; have hnb62 := NB821_801.out; have hnc62 := NB801_821.out; have hnb63 := NB821_819.out; have hnc63 := NB819_821.out; have hcz64_0 : w61.cell? ⟨gb821, 0, none⟩ = some (.string (⟨#[]⟩ : ByteArray)) := (blk_cell BK821.out 0).trans rfl; have hcz64_1 : w61.cell? ⟨gb821, 1, none⟩ = some (.int .u16 0) := (blk_cell BK821.out 1).trans rfl; have hcz64_2 : w61.cell? ⟨gb821, 2, none⟩ = some (.int .u32 0) := (blk_cell BK821.out 2).trans rfl; have hcz64_3 : w61.cell? ⟨gb821, 3, none⟩ = some (.string (⟨#[]⟩ : ByteArray)) := (blk_cell BK821.out 3).trans rfl; have hfz64_0 := blk_frozen BK821.out 0; have hfz64_1 := blk_frozen BK821.out 1; have hfz64_2 := blk_frozen BK821.out 2; have hfz64_3 := blk_frozen BK821.out 3))
                            go_roundg k2
                            case measure => have := HJ7.out; have := HK2.out; omega
                            case rel => exact ⟨(false), (wrap64 (x49_2 + 1)), (by first | rfl | (simp; done) | (simp [*]; done)), (by first | rfl | (simp; done) | (simp [*]; done)), H', ⟨by have := HJ7.out; have := HK2.out; omega⟩, ⟨by (with_reducible repeat (first | apply Kd.R_alloc | apply Kd.R_drewN | apply Kd.R_drew)); exact Kd.R_mono (Kd.R_far (p := ⟨gb821, 3, none⟩) (Kd.R_far (p := ⟨gb821, 2, none⟩) (Kd.R_far (p := ⟨gb821, 1, none⟩) (Kd.R_far (p := ⟨gb821, 0, none⟩) (Kd.R_mono HO_10.out (fun k_ hk => (⟨hk, hk.2⟩ : _ ∧ k_ ≠ gb821))) (fun _ hk => hk.2) (.string ((rd_T43 t809 x49_2).f0))) (fun _ hk => hk.2) (.int .u16 ((rd_T43 t809 x49_2).f1))) (fun _ hk => hk.2) (.int .u32 ((rd_T43 t809 x49_2).f2))) (fun _ hk => hk.2) (.string ((rd_T43 t809 x49_2).f3))) (fun _ hk => ⟨hk.1.1.1, hk.1.1.2⟩)⟩, ⟨by (with_reducible repeat (first | apply Kd.R_alloc | apply Kd.R_drewN | apply Kd.R_drew)); exact Kd.R_mono (Kd.R_far (p := ⟨gb821, 3, none⟩) (Kd.R_far (p := ⟨gb821, 2, none⟩) (Kd.R_far (p := ⟨gb821, 1, none⟩) (Kd.R_far (p := ⟨gb821, 0, none⟩) (Kd.R_mono HO_47.out (fun k_ hk => (⟨hk, hk.2⟩ : _ ∧ k_ ≠ gb821))) (fun _ hk => hk.2) (.string ((rd_T43 t809 x49_2).f0))) (fun _ hk => hk.2) (.int .u16 ((rd_T43 t809 x49_2).f1))) (fun _ hk => hk.2) (.int .u32 ((rd_T43 t809 x49_2).f2))) (fun _ hk => hk.2) (.string ((rd_T43 t809 x49_2).f3))) (fun _ hk => ⟨hk.1.1.1, hk.1.1.2⟩)⟩, ⟨by (with_reducible repeat (first | apply Kd.R_alloc | apply Kd.R_drewN | apply Kd.R_drew)); exact Kd.R_mono (Kd.R_far (p := ⟨gb821, 3, none⟩) (Kd.R_far (p := ⟨gb821, 2, none⟩) (Kd.R_far (p := ⟨gb821, 1, none⟩) (Kd.R_far (p := ⟨gb821, 0, none⟩) (Kd.R_mono HO_802003.out (fun k_ hk => (⟨hk, hk.2⟩ : _ ∧ k_ ≠ gb821))) (fun _ hk => hk.2) (.string ((rd_T43 t809 x49_2).f0))) (fun _ hk => hk.2) (.int .u16 ((rd_T43 t809 x49_2).f1))) (fun _ hk => hk.2) (.int .u32 ((rd_T43 t809 x49_2).f2))) (fun _ hk => hk.2) (.string ((rd_T43 t809 x49_2).f3))) (fun _ hk => ⟨hk.1.1.1, ⟨hk.1.1.2.1, hk.1.1.2.2⟩⟩)⟩, ⟨by (with_reducible repeat (first | apply Kd.R_alloc | apply Kd.R_drewN | apply Kd.R_drew)); exact Kd.R_mono (Kd.R_far (p := ⟨gb821, 3, none⟩) (Kd.R_far (p := ⟨gb821, 2, none⟩) (Kd.R_far (p := ⟨gb821, 1, none⟩) (Kd.R_far (p := ⟨gb821, 0, none⟩) (Kd.R_mono HO_820003.out (fun k_ hk => (⟨hk, hk.2⟩ : _ ∧ k_ ≠ gb821))) (fun _ hk => hk.2) (.string ((rd_T43 t809 x49_2).f0))) (fun _ hk => hk.2) (.int .u16 ((rd_T43 t809 x49_2).f1))) (fun _ hk => hk.2) (.int .u32 ((rd_T43 t809 x49_2).f2))) (fun _ hk => hk.2) (.string ((rd_T43 t809 x49_2).f3))) (fun _ hk => ⟨hk.1.1.1, ⟨hk.1.1.2.1, hk.1.1.2.2⟩⟩)⟩, ⟨by (with_reducible repeat (first | refine blk_drewN ?_ _ | refine blk_drew ?_ | refine blk_alloc ?_ _)); refine blk_far ?_ NB801_821.out _; (with_reducible repeat (first | refine blk_drewN ?_ _ | refine blk_drew ?_ | refine blk_alloc ?_ _)); refine blk_far ?_ NB801_821.out _; (with_reducible repeat (first | refine blk_drewN ?_ _ | refine blk_drew ?_ | refine blk_alloc ?_ _)); refine blk_far ?_ NB801_821.out _; (with_reducible repeat (first | refine blk_drewN ?_ _ | refine blk_drew ?_ | refine blk_alloc ?_ _)); refine blk_far ?_ NB801_821.out _; (with_reducible repeat (first | refine blk_drewN ?_ _ | refine blk_drew ?_ | refine blk_alloc ?_ _)); exact BK801.out⟩, ⟨by (with_reducible repeat (first | refine blk_drewN ?_ _ | refine blk_drew ?_ | refine blk_alloc ?_ _)); refine blk_far ?_ NB819_821.out _; (with_reducible repeat (first | refine blk_drewN ?_ _ | refine blk_drew ?_ | refine blk_alloc ?_ _)); refine blk_far ?_ NB819_821.out _; (with_reducible repeat (first | refine blk_drewN ?_ _ | refine blk_drew ?_ | refine blk_alloc ?_ _)); refine blk_far ?_ NB819_821.out _; (with_reducible repeat (first | refine blk_drewN ?_ _ | refine blk_drew ?_ | refine blk_alloc ?_ _)); refine blk_far ?_ NB819_821.out _; (with_reducible repeat (first | refine blk_drewN ?_ _ | refine blk_drew ?_ | refine blk_alloc ?_ _)); exact BK819.out⟩, ⟨by repeat (first | (with_reducible first | exact HB.out | apply below_alloc | apply pw_below_drewN | apply below_drew1 | refine below_set ?_ GE801.out | refine below_set ?_ GE819.out | refine below_set ?_ GE821.out) | exact HB.out)⟩⟩
                  · rw [if_neg c40] at H
                    exact absurd H (by simp)
                · rw [if_neg c39] at H
                  exact absurd H (by simp)
              · rw [if_neg c38] at H
                have c38b0 : decide (x49_2 < (t809.length : Int)) = false := decide_eq_false c38
                clear c38
                by_cases c65 : x13_2 = true
                · subst c65
                  have H1 : (if t818 = true then (some false) else ((action_Same.f k2 t812 t813 t814 t815 0 (⟨#[]⟩ : ByteArray) false ([] : List (S43))).bind fun t822 => (some t822))) = some r := by rw [if_pos rfl] at H; exact H
                  clear H
                  have H := H1
                  clear H1
                  by_cases c66 : t818 = true
                  · subst c66
                    have H1 : (some false) = some r := by rw [if_pos rfl] at H; exact H
                    clear H
                    have H := H1
                    clear H1
                    obtain rfl := Option.some.inj H
                    exact absurd hT Bool.false_ne_true
                  · replace c66 := Bool.eq_false_iff.mpr c66
                    subst c66
                    have H1 : ((action_Same.f k2 t812 t813 t814 t815 0 (⟨#[]⟩ : ByteArray) false ([] : List (S43))).bind fun t822 => (some t822)) = some r := by rw [if_neg (show ¬ (false = true) by decide)] at H; exact H
                    clear H
                    have H := H1
                    clear H1
                    replace H := Option.bind_eq_some_iff.mp H
                    obtain ⟨t822, A670, H⟩ := H
                    replace H : (some t822) = some r := H
                    have A67 := Aside0.mk A670
                    clear A670
                    obtain rfl := Option.some.inj H
                    have hnb68 := NB819_801.out
                    have hnc68 := NB801_819.out
                    have hcz69_0 : wr.cell? ⟨gb819, 0, none⟩ = some (.int .i64 t812) := (blk_cell BK819.out 0).trans rfl
                    have hcz69_1 : wr.cell? ⟨gb819, 1, none⟩ = some (.string t813) := (blk_cell BK819.out 1).trans rfl
                    have hcz69_2 : wr.cell? ⟨gb819, 2, none⟩ = some (.bool t814) := (blk_cell BK819.out 2).trans rfl
                    have hcz69_3 : wr.cell? ⟨gb819, 3, none⟩ = some (.slice Ao37 t815.length co37) := (blk_cell BK819.out 3).trans rfl
                    have hfz69_0 := blk_frozen BK819.out 0
                    have hfz69_1 := blk_frozen BK819.out 1
                    have hfz69_2 := blk_frozen BK819.out 2
                    have hfz69_3 := blk_frozen BK819.out 3
                    go_wp2_with (first | (go_at_call 20; (refine (action_Same.calls k2 t812 t813 t814 _ _ t815 0 (⟨#[]⟩ : ByteArray) false _ _ ([] : List (S43)) t822 _ ?side1 ?side2 ?side3 ?side4 A67.out).mono ?_); (case side1 => repeat (first | exact (Kd.R_reads' HO_820003.out).2.2 | (with_reducible refine Kd.C_alloc ?_ _) | (with_reducible refine Kd.C_drewN ?_ _) | (with_reducible refine Kd.C_drew ?_))); (case side2 => exact (Kd.R_reads' HO_820003.out).2.1); (case side3 => exact Kd.C_nil _ _); (case side4 => exact Nat.le_refl _); rintro e w70 ⟨rfl, hb⟩; have n0_ := Aside0.mk (Kd.R_below (by (with_reducible repeat (first | apply Kd.R_alloc | apply Kd.R_drewN | apply Kd.R_drew)); exact HO_10.out) hb); have n1_ := Aside0.mk (Kd.R_below (by (with_reducible repeat (first | apply Kd.R_alloc | apply Kd.R_drewN | apply Kd.R_drew)); exact HO_47.out) hb); have n2_ := Aside0.mk (Kd.R_below (by (with_reducible repeat (first | apply Kd.R_alloc | apply Kd.R_drewN | apply Kd.R_drew)); exact HO_802003.out) hb); have n3_ := Aside0.mk (Kd.R_below (by (with_reducible repeat (first | apply Kd.R_alloc | apply Kd.R_drewN | apply Kd.R_drew)); exact HO_820003.out) hb); have n4_ := Aside0.mk (blk_below (g := gb801) (o := .cells #[.int .i64 t794, .string t795, .bool t796, .slice Ao17 t797.length co17] 28 (0, 0)) (by (with_reducible repeat (first | refine blk_drewN ?_ _ | refine blk_drew ?_ | refine blk_alloc ?_ _)); exact BK801.out) hb); have n5_ := Aside0.mk (blk_below (g := gb819) (o := .cells #[.int .i64 t812, .string t813, .bool t814, .slice Ao37 t815.length co37] 28 (0, 0)) (by (with_reducible repeat (first | refine blk_drewN ?_ _ | refine blk_drew ?_ | refine blk_alloc ?_ _)); exact BK819.out) hb); have n6_ := Aside0.mk (below_step (by repeat (first | (with_reducible first | exact HB.out | apply below_alloc | apply pw_below_drewN | apply below_drew1 | refine below_set ?_ GE801.out | refine below_set ?_ GE819.out) | exact HB.out)) hb); clear HO_10; clear HO_47; clear HO_802003; clear HO_820003; clear BK801; clear BK819; clear HB; have HO_10 := n0_; have HO_47 := n1_; have HO_802003 := n2_; have HO_820003 := n3_; have BK801 := n4_; have BK819 := n5_; have HB := n6_; clear n0_ n1_ n2_ n3_ n4_ n5_ n6_; (try clear hb); (try clear hb2); (try clear hk); (try clear hi)))
                    go_ret
                    exact ⟨by first | rfl | (simp [errW_none, errW_some] <;> rfl) | (simp [*, errW_none, errW_some] <;> rfl), by repeat (first | (with_reducible first | exact HB.out | apply below_alloc | apply pw_below_drewN | apply below_drew1 | refine below_set ?_ GE801.out | refine below_set ?_ GE819.out) | exact HB.out)⟩
                · replace c65 := Bool.eq_false_iff.mpr c65
                  subst c65
                  have H1 : (if 0 < (t809.length : Int) then (if ((rd_T43 t809 0).f1) = 5 then (if t818 = true then ((bolterlaw14_of.f k2 ((rd_T43 t809 0).f3)).bind fun bt825 => ((action_Same.f k2 t812 t813 t814 t815 bt825.1 bt825.2.1 bt825.2.2.1 bt825.2.2.2).bind fun t831 => (some t831))) else (some false)) else (if t818 = true then (if t812 = 8 then (if t813.toList = ([] : List UInt8) then (if t814 = true then (some false) else ((bolterlaw05_SameRecords.f k2 t815 t809).bind fun t832 => (some t832))) else (some false)) else (some false)) else (some false))) else (none)) = some r := by rw [if_neg (show ¬ (false = true) by decide)] at H; exact H
                  clear H
                  have H := H1
                  clear H1
                  by_cases c71 : 0 < (t809.length : Int)
                  · rw [if_pos c71] at H
                    have c71b0 : decide (0 < (t809.length : Int)) = true := decide_eq_true c71
                    have c71b1 : decide (0 < t809.length) = true := decide_eq_true (by omega)
                    clear c71
                    by_cases c72 : ((rd_T43 t809 0).f1) = 5
                    · rw [if_pos c72] at H
                      have c72b0 : (((rd_T43 t809 0).f1) == 5) = true := beq_iff_eq.mpr c72
                      have c72b1 : (((rd_T43 t809 0).f1) != 5) = false := bne_eq_false_iff_eq.mpr c72
                      clear c72
                      by_cases c73 : t818 = true
                      · subst c73
                        have H1 : ((bolterlaw14_of.f k2 ((rd_T43 t809 0).f3)).bind fun bt825 => ((action_Same.f k2 t812 t813 t814 t815 bt825.1 bt825.2.1 bt825.2.2.1 bt825.2.2.2).bind fun t831 => (some t831))) = some r := by rw [if_pos rfl] at H; exact H
                        clear H
                        have H := H1
                        clear H1
                        replace H := Option.bind_eq_some_iff.mp H
                        obtain ⟨⟨t825, t826, t827, t828⟩, A740, H⟩ := H
                        replace H : ((action_Same.f k2 t812 t813 t814 t815 t825 t826 t827 t828).bind fun t831 => (some t831)) = some r := H
                        have A74 := Aside0.mk A740
                        clear A740
                        replace H := Option.bind_eq_some_iff.mp H
                        obtain ⟨t831, A750, H⟩ := H
                        replace H : (some t831) = some r := H
                        have A75 := Aside0.mk A750
                        clear A750
                        obtain rfl := Option.some.inj H
                        have p823 : 0 ≤ (0 : Int) := (by omega)
                        have q823 : 0 < (t809.length : Int) := of_decide_eq_true (by first | (with_reducible assumption) | assumption)
                        obtain ⟨ad823, e823, hx823_0, hx823_1, hx823_2, hx823_3⟩ := at_T43 (Kd.R_reads' HO_10.out).2.2 0 p823 q823
                        cases e823
                        have qi823 : (0 < t809.length) = True := eq_true (by omega)
                        (try rw [show ((0 : Int)).toNat = 0 from rfl] at hx823_0)
                        (try rw [show 0 * 4 = 0 from rfl] at hx823_0)
                        (try rw [Addr.add_zero'] at hx823_0)
                        (try rw [show ((0 : Int)).toNat = 0 from rfl] at hx823_1)
                        (try rw [show 0 * 4 = 0 from rfl] at hx823_1)
                        (try rw [Addr.add_zero'] at hx823_1)
                        (try rw [show ((0 : Int)).toNat = 0 from rfl] at hx823_2)
                        (try rw [show 0 * 4 = 0 from rfl] at hx823_2)
                        (try rw [Addr.add_zero'] at hx823_2)
                        (try rw [show ((0 : Int)).toNat = 0 from rfl] at hx823_3)
                        (try rw [show 0 * 4 = 0 from rfl] at hx823_3)
                        (try rw [Addr.add_zero'] at hx823_3)
                        replace p823 := eq_true p823
                        replace q823 := eq_true q823
                        try go_wp2
                        have n0_ := Aside0.mk (Kd.R_drew HO_10.out)
                        have n1_ := Aside0.mk (Kd.R_drew HO_47.out)
                        have n2_ := Aside0.mk (Kd.R_drew HO_802003.out)
                        have n3_ := Aside0.mk (Kd.R_drew HO_820003.out)
                        have n4_ := Aside0.mk (blk_drew BK801.out)
                        have n5_ := Aside0.mk (blk_drew BK819.out)
                        have n6_ := Aside0.mk (below_drew1 HB.out)
                        clear HO_10
                        clear HO_47
                        clear HO_802003
                        clear HO_820003
                        clear BK801
                        clear BK819
                        clear HB
                        have HO_10 := n0_
                        have HO_47 := n1_
                        have HO_802003 := n2_
                        have HO_820003 := n3_
                        have BK801 := n4_
                        have BK819 := n5_
                        have HB := n6_
                        clear n0_ n1_ n2_ n3_ n4_ n5_ n6_
                        have p824 : 0 ≤ (0 : Int) := (by omega)
                        have q824 : 0 < (t809.length : Int) := of_decide_eq_true (by first | (with_reducible assumption) | assumption)
                        obtain ⟨ad824, e824, hx824_0, hx824_1, hx824_2, hx824_3⟩ := at_T43 (Kd.R_reads' HO_10.out).2.2 0 p824 q824
                        obtain rfl : ad823 = ad824 := (by injection e824)
                        have qi824 : (0 < t809.length) = True := eq_true (by omega)
                        (try rw [show ((0 : Int)).toNat = 0 from rfl] at hx824_0)
                        (try rw [show 0 * 4 = 0 from rfl] at hx824_0)
                        (try rw [Addr.add_zero'] at hx824_0)
                        (try rw [show ((0 : Int)).toNat = 0 from rfl] at hx824_1)
                        (try rw [show 0 * 4 = 0 from rfl] at hx824_1)
                        (try rw [Addr.add_zero'] at hx824_1)
                        (try rw [show ((0 : Int)).toNat = 0 from rfl] at hx824_2)
                        (try rw [show 0 * 4 = 0 from rfl] at hx824_2)
                        (try rw [Addr.add_zero'] at hx824_2)
                        (try rw [show ((0 : Int)).toNat = 0 from rfl] at hx824_3)
                        (try rw [show 0 * 4 = 0 from rfl] at hx824_3)
                        (try rw [Addr.add_zero'] at hx824_3)
                        replace p824 := eq_true p824
                        replace q824 := eq_true q824
                        refine start_ (n := 11) (S := fun w' => w'.cell? ⟨gb819, 0, none⟩ = some (.int .i64 t812) ∧ w'.cell? ⟨gb819, 1, none⟩ = some (.string t813) ∧ w'.cell? ⟨gb819, 2, none⟩ = some (.bool t814) ∧ w'.cell? ⟨gb819, 3, none⟩ = some (.slice Ao37 t815.length co37) ∧ w'.cell? ad823 = some (.string ((rd_T43 t809 0).f0)) ∧ w'.cell? ⟨ad823.block, ad823.off + 1, none⟩ = some (.int .u16 ((rd_T43 t809 0).f1)) ∧ w'.cell? ⟨ad823.block, ad823.off + 2, none⟩ = some (.int .u32 ((rd_T43 t809 0).f2)) ∧ w'.cell? ⟨ad823.block, ad823.off + 3, none⟩ = some (.string ((rd_T43 t809 0).f3))) (ds := []) #[false, false, false, false, false, false, false, false, false, false, false] (by kernel_rfl) rfl rfl ⟨(blk_cell BK819.out 0).trans rfl, (blk_cell BK819.out 1).trans rfl, (blk_cell BK819.out 2).trans rfl, (blk_cell BK819.out 3).trans rfl, hx824_0, hx824_1, hx824_2, hx824_3⟩ (fun hHeld => ?_); refine with_tabW bolterlaw14_ActionOf.tab18 bolterlaw14_ActionOf.bits18 (fun HT_ HW_ => ?_)
                        generalize wr.drew = w76 at HO_10 HO_47 HO_802003 HO_820003 BK801 BK819 HB hx824_0 hx824_1 hx824_2 hx824_3 hHeld ⊢
                        refine pure_ (i := 0) (N := some 88) (v := ?_) (a' := ?_) #[true, false, false, false, false, false, false, false, false, false, false] rfl rfl (any_of HT_.out (by kernel_rfl)) (fun _ _ _ h => h) (Or.inl ⟨by rfl, ?_⟩) ?_ ?_
                        rotate_left
                        · intro w'
                          go_simp
                          with_reducible rfl
                        rotate_left
                        · simp only [Act.put, List.setIfInBounds_toArray, List.set_cons_zero, List.set_cons_succ, i64_w, i32_w]
                          rfl
                        refine pure_ (i := 1) (N := some 89) (v := ?_) (a' := ?_) #[true, true, false, false, false, false, false, false, false, false, false] rfl rfl (any_of HT_.out (by kernel_rfl)) (fun _ _ _ h => h) (Or.inl ⟨by rfl, ?_⟩) ?_ ?_
                        rotate_left
                        · intro w'
                          go_simp
                          with_reducible rfl
                        rotate_left
                        · simp only [Act.put, List.setIfInBounds_toArray, List.set_cons_zero, List.set_cons_succ, i64_w, i32_w]
                          rfl
                        refine pure_ (i := 3) (N := some 91) (v := ?_) (a' := ?_) #[true, true, false, true, false, false, false, false, false, false, false] rfl rfl (any_of HT_.out (by kernel_rfl)) (fun _ _ _ h => h) (Or.inl ⟨by rfl, ?_⟩) ?_ ?_
                        rotate_left
                        · intro w'
                          go_simp
                          with_reducible rfl
                        rotate_left
                        · simp only [Act.put, List.setIfInBounds_toArray, List.set_cons_zero, List.set_cons_succ, i64_w, i32_w]
                          rfl
                        refine pure_ (i := 4) (N := some 92) (v := ?_) (a' := ?_) #[true, true, false, true, true, false, false, false, false, false, false] rfl rfl (any_of HT_.out (by kernel_rfl)) (fun _ _ _ h => h) (Or.inl ⟨by rfl, ?_⟩) ?_ ?_
                        rotate_left
                        · intro w'
                          go_simp
                          with_reducible rfl
                        rotate_left
                        · simp only [Act.put, List.setIfInBounds_toArray, List.set_cons_zero, List.set_cons_succ, i64_w, i32_w]
                          rfl
                        refine pure_ (i := 5) (N := some 93) (v := ?_) (a' := ?_) #[true, true, false, true, true, true, false, false, false, false, false] rfl rfl (any_of HT_.out (by kernel_rfl)) (fun _ _ _ h => h) (Or.inl ⟨by rfl, ?_⟩) ?_ ?_
                        rotate_left
                        · intro w'
                          go_simp
                          with_reducible rfl
                        rotate_left
                        · simp only [Act.put, List.setIfInBounds_toArray, List.set_cons_zero, List.set_cons_succ, i64_w, i32_w]
                          rfl
                        refine take_ (i := 2) (N := some 90) (v := ?_) (a' := ?_) #[true, true, true, true, true, true, false, false, false, false, false] rfl rfl (take_ofW HT_.out HW_.out (by kernel_rfl)) (fun _ _ _ h => h) (Or.inl ⟨by rfl, ?_⟩) hHeld ?_ ?_
                        rotate_left
                        · rintro w' ⟨s0, s1, s2, s3, s4, s5, s6, s7⟩
                          go_simp
                          with_reducible rfl
                        rotate_left
                        · simp only [Act.put, List.setIfInBounds_toArray, List.set_cons_zero, List.set_cons_succ, i64_w, i32_w]
                          rfl
                        refine take_ (i := 6) (N := some 94) (v := ?_) (a' := ?_) #[true, true, true, true, true, true, true, false, false, false, false] rfl rfl (take_ofW HT_.out HW_.out (by kernel_rfl)) (fun _ _ _ h => h) (Or.inl ⟨by rfl, ?_⟩) hHeld ?_ ?_
                        rotate_left
                        · rintro w' ⟨s0, s1, s2, s3, s4, s5, s6, s7⟩
                          go_simp
                          with_reducible rfl
                        rotate_left
                        · simp only [Act.put, List.setIfInBounds_toArray, List.set_cons_zero, List.set_cons_succ, i64_w, i32_w]
                          rfl
                        refine one_ (i := 7) (N := some 95) #[true, true, true, true, true, true, true, true, false, false, false] rfl rfl (one_of HT_.out (by kernel_rfl)) (by decide) (fun K hK => ?_)
                        refine goes_ Try.func14 (by kernel_rfl) rfl #[.string ((rd_T43 t809 0).f3)] (by rfl) rfl rfl (by (try simp only [List.map_toArray, List.map_cons, List.map_nil]); first | done | rfl | (simp only [List.length_drop, List.length_take]; rfl)) ?_
                        with_reducible refine (bolterlaw14_of.calls k2 ((rd_T43 t809 0).f3) t825 t826 t827 t828 _ A74.out).mono ?_
                        rintro e w77 ⟨v829, rfl, ho0, hb⟩
                        have HS4_ := (hb.cell (World.block_lt_of_cell? _ _ (hHeld.2.2.2.2.1))).trans (hHeld.2.2.2.2.1)
                        have HS5_ := (hb.cell (World.block_lt_of_cell? _ _ (hHeld.2.2.2.2.2.1))).trans (hHeld.2.2.2.2.2.1)
                        have HS6_ := (hb.cell (World.block_lt_of_cell? _ _ (hHeld.2.2.2.2.2.2.1))).trans (hHeld.2.2.2.2.2.2.1)
                        have HS7_ := (hb.cell (World.block_lt_of_cell? _ _ (hHeld.2.2.2.2.2.2.2))).trans (hHeld.2.2.2.2.2.2.2)
                        refine ⟨_, rfl, ?_⟩
                        have n0_ := Aside0.mk (Kd.R_elder' (by (with_reducible repeat (first | apply Kd.R_alloc | apply Kd.R_drewN | apply Kd.R_drew)); exact HO_10.out) (Kd.R_base ho0) hb)
                        have n1_ := Aside0.mk (Kd.R_elder' (by (with_reducible repeat (first | apply Kd.R_alloc | apply Kd.R_drewN | apply Kd.R_drew)); exact HO_47.out) (Kd.R_base ho0) hb)
                        have n2_ := Aside0.mk (Kd.R_elder' (by (with_reducible repeat (first | apply Kd.R_alloc | apply Kd.R_drewN | apply Kd.R_drew)); exact HO_802003.out) (Kd.R_base ho0) hb)
                        have n3_ := Aside0.mk (Kd.R_elder' (by (with_reducible repeat (first | apply Kd.R_alloc | apply Kd.R_drewN | apply Kd.R_drew)); exact HO_820003.out) (Kd.R_base ho0) hb)
                        have n4_ := Aside0.mk (Kd.R_lower (Kd.R_new' (Kd.R_new' (Kd.R_new' (Kd.R_new' ho0 (Kd.R_lt (by (with_reducible repeat (first | apply Kd.R_alloc | apply Kd.R_drewN | apply Kd.R_drew)); exact HO_10.out))) (Kd.R_lt (by (with_reducible repeat (first | apply Kd.R_alloc | apply Kd.R_drewN | apply Kd.R_drew)); exact HO_47.out))) (Kd.R_lt (by (with_reducible repeat (first | apply Kd.R_alloc | apply Kd.R_drewN | apply Kd.R_drew)); exact HO_802003.out))) (Kd.R_lt (by (with_reducible repeat (first | apply Kd.R_alloc | apply Kd.R_drewN | apply Kd.R_drew)); exact HO_820003.out))) (below_size (by repeat (first | (with_reducible first | exact HB.out | apply below_alloc | apply pw_below_drewN | apply below_drew1 | refine below_set ?_ GE801.out | refine below_set ?_ GE819.out) | exact HB.out))))
                        have n5_ := Aside0.mk (blk_below (g := gb801) (o := .cells #[.int .i64 t794, .string t795, .bool t796, .slice Ao17 t797.length co17] 28 (0, 0)) (by (with_reducible repeat (first | refine blk_drewN ?_ _ | refine blk_drew ?_ | refine blk_alloc ?_ _)); exact BK801.out) hb)
                        have n6_ := Aside0.mk (blk_below (g := gb819) (o := .cells #[.int .i64 t812, .string t813, .bool t814, .slice Ao37 t815.length co37] 28 (0, 0)) (by (with_reducible repeat (first | refine blk_drewN ?_ _ | refine blk_drew ?_ | refine blk_alloc ?_ _)); exact BK819.out) hb)
                        have n7_ := Aside0.mk (below_step (by repeat (first | (with_reducible first | exact HB.out | apply below_alloc | apply pw_below_drewN | apply below_drew1 | refine below_set ?_ GE801.out | refine below_set ?_ GE819.out) | exact HB.out)) hb)
                        clear HO_10
                        clear HO_47
                        clear HO_802003
                        clear HO_820003
                        clear BK801
                        clear BK819
                        clear HB
                        have HO_10 := n0_
                        have HO_47 := n1_
                        have HO_802003 := n2_
                        have HO_820003 := n3_
                        have HO830 := n4_
                        have BK801 := n5_
                        have BK819 := n6_
                        have HB := n7_
                        clear n0_ n1_ n2_ n3_ n4_ n5_ n6_ n7_
                        (try clear hb)
                        (try clear hb2)
                        (try clear hk)
                        (try clear hi)
                        (try clear ho0)
                        obtain ⟨Ao78, co78, eo78⟩ := Kd.R_slice HO830.out
                        (first | subst eo78 | (injection eo78 with f1_ f2_ f3_; have f4_ := f1_.symm; have f5_ := f3_.symm; clear f1_ f2_ f3_; subst f4_; subst f5_))
                        refine hK.out _ _ ⟨(blk_cell BK819.out 0).trans rfl, (blk_cell BK819.out 1).trans rfl, (blk_cell BK819.out 2).trans rfl, (blk_cell BK819.out 3).trans rfl, HS4_, HS5_, HS6_, HS7_⟩ (fun hHeld => ?_)
                        clear hK K
                        refine norm_ (a' := ?_) ?_ ?_
                        rotate_left
                        · show Act.put _ (some 95) _ = _
                          simp only [Act.put, List.setIfInBounds_toArray, List.set_cons_zero, List.set_cons_succ, i64_w, i32_w]
                          rfl
                        refine one_ (i := 8) (N := some 96) #[true, true, true, true, true, true, true, true, true, false, false] rfl rfl (one_of HT_.out (by kernel_rfl)) (by decide) (fun K hK => ?_)
                        refine goes_ Try.func20 (by kernel_rfl) rfl #[.agg #[.int .i64 t812, .string t813, .bool t814, .slice Ao37 t815.length co37], .agg #[.int .i64 t825, .string t826, .bool t827, .slice Ao78 t828.length co78]] (by rfl) rfl rfl (by (try simp only [List.map_toArray, List.map_cons, List.map_nil]); first | done | rfl | (simp only [List.length_drop, List.length_take]; rfl)) ?_
                        with_reducible refine (action_Same.calls k2 t812 t813 t814 _ _ t815 t825 t826 t827 _ _ t828 t831 _ ?side1 ?side2 ?side3 ?side4 A75.out).mono ?_
                        (case side1 => repeat (first | exact (Kd.R_reads' HO_820003.out).2.2 | (with_reducible refine Kd.C_alloc ?_ _) | (with_reducible refine Kd.C_drewN ?_ _) | (with_reducible refine Kd.C_drew ?_)))
                        (case side2 => exact (Kd.R_reads' HO_820003.out).2.1)
                        (case side3 => repeat (first | exact (Kd.R_reads' HO830.out).2.2 | (with_reducible refine Kd.C_alloc ?_ _) | (with_reducible refine Kd.C_drewN ?_ _) | (with_reducible refine Kd.C_drew ?_)))
                        (case side4 => exact (Kd.R_reads' HO830.out).2.1)
                        rintro e w79 ⟨rfl, hb⟩
                        have HS4_ := (hb.cell (World.block_lt_of_cell? _ _ (hHeld.2.2.2.2.1))).trans (hHeld.2.2.2.2.1)
                        have HS5_ := (hb.cell (World.block_lt_of_cell? _ _ (hHeld.2.2.2.2.2.1))).trans (hHeld.2.2.2.2.2.1)
                        have HS6_ := (hb.cell (World.block_lt_of_cell? _ _ (hHeld.2.2.2.2.2.2.1))).trans (hHeld.2.2.2.2.2.2.1)
                        have HS7_ := (hb.cell (World.block_lt_of_cell? _ _ (hHeld.2.2.2.2.2.2.2))).trans (hHeld.2.2.2.2.2.2.2)
                        refine ⟨_, rfl, ?_⟩
                        have n0_ := Aside0.mk (Kd.R_below (by (with_reducible repeat (first | apply Kd.R_alloc | apply Kd.R_drewN | apply Kd.R_drew)); exact HO_10.out) hb)
                        have n1_ := Aside0.mk (Kd.R_below (by (with_reducible repeat (first | apply Kd.R_alloc | apply Kd.R_drewN | apply Kd.R_drew)); exact HO_47.out) hb)
                        have n2_ := Aside0.mk (Kd.R_below (by (with_reducible repeat (first | apply Kd.R_alloc | apply Kd.R_drewN | apply Kd.R_drew)); exact HO_802003.out) hb)
                        have n3_ := Aside0.mk (Kd.R_below (by (with_reducible repeat (first | apply Kd.R_alloc | apply Kd.R_drewN | apply Kd.R_drew)); exact HO_820003.out) hb)
                        have n4_ := Aside0.mk (Kd.R_below (by (with_reducible repeat (first | apply Kd.R_alloc | apply Kd.R_drewN | apply Kd.R_drew)); exact HO830.out) hb)
                        have n5_ := Aside0.mk (blk_below (g := gb801) (o := .cells #[.int .i64 t794, .string t795, .bool t796, .slice Ao17 t797.length co17] 28 (0, 0)) (by (with_reducible repeat (first | refine blk_drewN ?_ _ | refine blk_drew ?_ | refine blk_alloc ?_ _)); exact BK801.out) hb)
                        have n6_ := Aside0.mk (blk_below (g := gb819) (o := .cells #[.int .i64 t812, .string t813, .bool t814, .slice Ao37 t815.length co37] 28 (0, 0)) (by (with_reducible repeat (first | refine blk_drewN ?_ _ | refine blk_drew ?_ | refine blk_alloc ?_ _)); exact BK819.out) hb)
                        have n7_ := Aside0.mk (below_step (by repeat (first | (with_reducible first | exact HB.out | apply below_alloc | apply pw_below_drewN | apply below_drew1 | refine below_set ?_ GE801.out | refine below_set ?_ GE819.out) | exact HB.out)) hb)
                        clear HO_10
                        clear HO_47
                        clear HO_802003
                        clear HO_820003
                        clear HO830
                        clear BK801
                        clear BK819
                        clear HB
                        have HO_10 := n0_
                        have HO_47 := n1_
                        have HO_802003 := n2_
                        have HO_820003 := n3_
                        have HO830 := n4_
                        have BK801 := n5_
                        have BK819 := n6_
                        have HB := n7_
                        clear n0_ n1_ n2_ n3_ n4_ n5_ n6_ n7_
                        (try clear hb)
                        (try clear hb2)
                        (try clear hk)
                        (try clear hi)
                        refine hK.out _ _ ⟨(blk_cell BK819.out 0).trans rfl, (blk_cell BK819.out 1).trans rfl, (blk_cell BK819.out 2).trans rfl, (blk_cell BK819.out 3).trans rfl, HS4_, HS5_, HS6_, HS7_⟩ (fun hHeld => ?_)
                        clear hK K
                        refine norm_ (a' := ?_) ?_ ?_
                        rotate_left
                        · show Act.put _ (some 96) _ = _
                          simp only [Act.put, List.setIfInBounds_toArray, List.set_cons_zero, List.set_cons_succ, i64_w, i32_w]
                          rfl
                        refine pure_ (i := 9) (N := some 97) (v := ?_) (a' := ?_) #[true, true, true, true, true, true, true, true, true, true, false] rfl rfl (any_of HT_.out (by kernel_rfl)) (fun _ _ _ h => h) (Or.inl ⟨by rfl, ?_⟩) ?_ ?_
                        rotate_left
                        · intro w'
                          go_simp
                          with_reducible rfl
                        rotate_left
                        · simp only [Act.put, List.setIfInBounds_toArray, List.set_cons_zero, List.set_cons_succ, i64_w, i32_w]
                          rfl
                        refine pure_ (i := 10) (N := some 6) (v := ?_) (a' := ?_) #[true, true, true, true, true, true, true, true, true, true, true] rfl rfl (any_of HT_.out (by kernel_rfl)) (fun _ _ _ h => h) (Or.inl ⟨by rfl, ?_⟩) ?_ ?_
                        rotate_left
                        · intro w'
                          go_simp
                          with_reducible rfl
                        rotate_left
                        · simp only [Act.put, List.setIfInBounds_toArray, List.set_cons_zero, List.set_cons_succ, i64_w, i32_w]
                          rfl
                        refine done_ (done_of HT_.out (by kernel_rfl)) ?_
                        try go_wp2
                        go_ret
                        exact ⟨by first | rfl | (simp [errW_none, errW_some] <;> rfl) | (simp [*, errW_none, errW_some] <;> rfl), by repeat (first | (with_reducible first | exact HB.out | apply below_alloc | apply pw_below_drewN | apply below_drew1 | refine below_set ?_ GE801.out | refine below_set ?_ GE819.out) | exact HB.out)⟩
                      · replace c73 := Bool.eq_false_iff.mpr c73
                        subst c73
                        have H1 : (some false) = some r := by rw [if_neg (show ¬ (false = true) by decide)] at H; exact H
                        clear H
                        have H := H1
                        clear H1
                        obtain rfl := Option.some.inj H
                        exact absurd hT Bool.false_ne_true
                    · rw [if_neg c72] at H
                      have c72b0 : (((rd_T43 t809 0).f1) == 5) = false := beq_eq_false_iff_ne.mpr c72
                      have c72b1 : (((rd_T43 t809 0).f1) != 5) = true := bne_iff_ne.mpr c72
                      by_cases c80 : t818 = true
                      · subst c80
                        have H1 : (if t812 = 8 then (if t813.toList = ([] : List UInt8) then (if t814 = true then (some false) else ((bolterlaw05_SameRecords.f k2 t815 t809).bind fun t832 => (some t832))) else (some false)) else (some false)) = some r := by rw [if_pos rfl] at H; exact H
                        clear H
                        have H := H1
                        clear H1
                        by_cases c81 : t812 = 8
                        · rw [if_pos c81] at H
                          have c81b0 : (t812 == 8) = true := beq_iff_eq.mpr c81
                          have c81b1 : (t812 != 8) = false := bne_eq_false_iff_eq.mpr c81
                          clear c81
                          by_cases c82 : t813.toList = ([] : List UInt8)
                          · rw [if_pos c82] at H
                            have c82b0 : (t813.toList == ([] : List UInt8)) = true := beq_iff_eq.mpr c82
                            have c82b1 : (t813.toList != ([] : List UInt8)) = false := bne_eq_false_iff_eq.mpr c82
                            clear c82
                            by_cases c83 : t814 = true
                            · subst c83
                              have H1 : (some false) = some r := by rw [if_pos rfl] at H; exact H
                              clear H
                              have H := H1
                              clear H1
                              obtain rfl := Option.some.inj H
                              exact absurd hT Bool.false_ne_true
                            · replace c83 := Bool.eq_false_iff.mpr c83
                              subst c83
                              have H1 : ((bolterlaw05_SameRecords.f k2 t815 t809).bind fun t832 => (some t832)) = some r := by rw [if_neg (show ¬ (false = true) by decide)] at H; exact H
                              clear H
                              have H := H1
                              clear H1
                              replace H := Option.bind_eq_some_iff.mp H
                              obtain ⟨t832, A840, H⟩ := H
                              replace H : (some t832) = some r := H
                              have A84 := Aside0.mk A840
                              clear A840
                              obtain rfl := Option.some.inj H
                              have p823 : 0 ≤ (0 : Int) := (by omega)
                              have q823 : 0 < (t809.length : Int) := of_decide_eq_true (by first | (with_reducible assumption) | assumption)
                              obtain ⟨ad823, e823, hx823_0, hx823_1, hx823_2, hx823_3⟩ := at_T43 (Kd.R_reads' HO_10.out).2.2 0 p823 q823
                              cases e823
                              have qi823 : (0 < t809.length) = True := eq_true (by omega)
                              (try rw [show ((0 : Int)).toNat = 0 from rfl] at hx823_0)
                              (try rw [show 0 * 4 = 0 from rfl] at hx823_0)
                              (try rw [Addr.add_zero'] at hx823_0)
                              (try rw [show ((0 : Int)).toNat = 0 from rfl] at hx823_1)
                              (try rw [show 0 * 4 = 0 from rfl] at hx823_1)
                              (try rw [Addr.add_zero'] at hx823_1)
                              (try rw [show ((0 : Int)).toNat = 0 from rfl] at hx823_2)
                              (try rw [show 0 * 4 = 0 from rfl] at hx823_2)
                              (try rw [Addr.add_zero'] at hx823_2)
                              (try rw [show ((0 : Int)).toNat = 0 from rfl] at hx823_3)
                              (try rw [show 0 * 4 = 0 from rfl] at hx823_3)
                              (try rw [Addr.add_zero'] at hx823_3)
                              replace p823 := eq_true p823
                              replace q823 := eq_true q823
                              have hnb85 := NB819_801.out
                              have hnc85 := NB801_819.out
                              have hcz86_0 : wr.cell? ⟨gb819, 0, none⟩ = some (.int .i64 t812) := (blk_cell BK819.out 0).trans rfl
                              have hcz86_1 : wr.cell? ⟨gb819, 1, none⟩ = some (.string t813) := (blk_cell BK819.out 1).trans rfl
                              have hcz86_2 : wr.cell? ⟨gb819, 2, none⟩ = some (.bool false) := (blk_cell BK819.out 2).trans rfl
                              have hcz86_3 : wr.cell? ⟨gb819, 3, none⟩ = some (.slice Ao37 t815.length co37) := (blk_cell BK819.out 3).trans rfl
                              have hfz86_0 := blk_frozen BK819.out 0
                              have hfz86_1 := blk_frozen BK819.out 1
                              have hfz86_2 := blk_frozen BK819.out 2
                              have hfz86_3 := blk_frozen BK819.out 3
                              go_wp2_with (first | (go_at_call 22; (with_reducible refine (bolterlaw05_SameRecords.calls k2 _ _ t815 _ _ t809 t832 _ ?side1 ?side2 ?side3 ?side4 A84.out).mono ?_); (case side1 => repeat (first | exact (Kd.R_reads' HO_820003.out).2.2 | (with_reducible refine Kd.C_alloc ?_ _) | (with_reducible refine Kd.C_drewN ?_ _) | (with_reducible refine Kd.C_drew ?_))); (case side2 => exact (Kd.R_reads' HO_820003.out).2.1); (case side3 => repeat (first | exact (Kd.R_reads' HO_10.out).2.2 | (with_reducible refine Kd.C_alloc ?_ _) | (with_reducible refine Kd.C_drewN ?_ _) | (with_reducible refine Kd.C_drew ?_))); (case side4 => exact (Kd.R_reads' HO_10.out).2.1); rintro e w' ⟨rfl, ⟨nd, rfl⟩⟩))
                              go_ret
                              exact ⟨by first | rfl | (simp [errW_none, errW_some] <;> rfl) | (simp [*, errW_none, errW_some] <;> rfl), by repeat (first | (with_reducible first | exact HB.out | apply below_alloc | apply pw_below_drewN | apply below_drew1 | refine below_set ?_ GE801.out | refine below_set ?_ GE819.out) | exact HB.out)⟩
                          · rw [if_neg c82] at H
                            have c82b0 : (t813.toList == ([] : List UInt8)) = false := beq_eq_false_iff_ne.mpr c82
                            have c82b1 : (t813.toList != ([] : List UInt8)) = true := bne_iff_ne.mpr c82
                            obtain rfl := Option.some.inj H
                            exact absurd hT Bool.false_ne_true
                        · rw [if_neg c81] at H
                          have c81b0 : (t812 == 8) = false := beq_eq_false_iff_ne.mpr c81
                          have c81b1 : (t812 != 8) = true := bne_iff_ne.mpr c81
                          obtain rfl := Option.some.inj H
                          exact absurd hT Bool.false_ne_true
                      · replace c80 := Bool.eq_false_iff.mpr c80
                        subst c80
                        have H1 : (some false) = some r := by rw [if_neg (show ¬ (false = true) by decide)] at H; exact H
                        clear H
                        have H := H1
                        clear H1
                        obtain rfl := Option.some.inj H
                        exact absurd hT Bool.false_ne_true
                  · rw [if_neg c71] at H
                    exact absurd H (by simp)
  · replace c5 := Bool.eq_false_iff.mpr c5
    subst c5
    have H1 : (some false) = some r := by rw [if_neg (show ¬ (false = true) by decide)] at H; exact H
    clear H
    have H := H1
    clear H1
    obtain rfl := Option.some.inj H
    exact absurd hT Bool.false_ne_true

end Go.Proofs.Ytdkjlbbbdjkhbaa.PAll
