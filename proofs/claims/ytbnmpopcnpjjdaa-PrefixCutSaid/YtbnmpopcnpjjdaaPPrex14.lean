-- Written by a program of this session (wip/tools/drive.py over the kit's printer): functions, contracts and rows (Pre).
import Derived.Test.YtbnmpopcnpjjdaaPPrex0
import Derived.Test.YtbnmpopcnpjjdaaPPrex1
import Derived.Test.YtbnmpopcnpjjdaaPPrex11
import Derived.Test.YtbnmpopcnpjjdaaPPrex12
import Derived.Test.YtbnmpopcnpjjdaaPPrex13
namespace Go.Proofs.Ytbnmpopcnpjjdaa.PPre
open Go.RowKit Go.Proofs.YtbnmpopcnpjjdaaW.PrintWords Go.Proofs.YtbnmpopcnpjjdaaW.PrintLast Go.Proofs.YtbnmpopcnpjjdaaW.PrintMore
attribute [local go_sem] max2_int min2_int max_two min_two max_three min_three max_four min_four   -- for this text's walks alone
open Go.Proofs.Ytbnmpopcnpjjdaa.Hand Go.Proofs.Ytbnmpopcnpjjdaa.PBase0
set_option linter.unusedVariables false
set_option linter.unusedSimpArgs false

attribute [local go_sem high] eqA39
/-! ### bolterlaw12_PrefixCut: function 8 -/
mutual
def bolterlaw12_PrefixCut.l0 : Nat → Int → List ByteArray → Int → Int → Option (Bool)
  | 0, _, _, _, _ => none
  | k + 1, x1, x22, x23, x24 => if x24 < x23 then (if 0 ≤ x24 then (if x24 < (x22.length : Int) then ((prefix_Cut.f (rdOf ByteArray.empty x22 x24) x1).bind fun bt124 => (if ((rdOf ByteArray.empty x22 x24).size : Int) = 4 then (if x1 ≥ 0 then (bolterlaw12_PrefixCut.j1 k x1 (rdOf ByteArray.empty x22 x24) bt124.2.2 (decide (x1 ≤ (wrap64 (8 * ((rdOf ByteArray.empty x22 x24).size : Int))))) x22 x23 x24 bt124.1 bt124.2.1) else (bolterlaw12_PrefixCut.j1 k x1 (rdOf ByteArray.empty x22 x24) bt124.2.2 false x22 x23 x24 bt124.1 bt124.2.1)) else (if ((rdOf ByteArray.empty x22 x24).size : Int) = 16 then (if x1 ≥ 0 then (bolterlaw12_PrefixCut.j1 k x1 (rdOf ByteArray.empty x22 x24) bt124.2.2 (decide (x1 ≤ (wrap64 (8 * ((rdOf ByteArray.empty x22 x24).size : Int))))) x22 x23 x24 bt124.1 bt124.2.1) else (bolterlaw12_PrefixCut.j1 k x1 (rdOf ByteArray.empty x22 x24) bt124.2.2 false x22 x23 x24 bt124.1 bt124.2.1)) else (bolterlaw12_PrefixCut.j1 k x1 (rdOf ByteArray.empty x22 x24) bt124.2.2 false x22 x23 x24 bt124.1 bt124.2.1)))) else (none)) else (none)) else (some true)
def bolterlaw12_PrefixCut.j1 : Nat → Int → ByteArray → Bool → Bool → List ByteArray → Int → Int → ByteArray → Int → Option (Bool)
  | 0, _, _, _, _, _, _, _, _, _ => none
  | k + 1, x1, x10, x12, x13, x22, x23, x24, x128000, x128001 => (prefix_Address.f x10).bind fun t128 => (if (x10.size : Int) = 4 then (if (t128 != true) = true then (bolterlaw12_PrefixCut.j2 k x1 x10 x13 x22 x23 x24 true x128000 x128001) else (bolterlaw12_PrefixCut.j2 k x1 x10 x13 x22 x23 x24 (x12 != x13) x128000 x128001)) else (if (t128 != ((x10.size : Int) == 16)) = true then (bolterlaw12_PrefixCut.j2 k x1 x10 x13 x22 x23 x24 true x128000 x128001) else (bolterlaw12_PrefixCut.j2 k x1 x10 x13 x22 x23 x24 (x12 != x13) x128000 x128001)))
def bolterlaw12_PrefixCut.j2 : Nat → Int → ByteArray → Bool → List ByteArray → Int → Int → Bool → ByteArray → Int → Option (Bool)
  | 0, _, _, _, _, _, _, _, _, _ => none
  | k + 1, x1, x10, x13, x22, x23, x24, x68, x128000, x128001 => if x68 = true then (some false) else (if x13 = true then ((bolterlaw12_bits.f k x128000).bind fun t129 => (if x128001 = x1 then (if (x128000.size : Int) = (x10.size : Int) then (if 0 ≤ x1 then (if x1 ≤ (t129.size : Int) then ((bolterlaw12_bits.f k x10).bind fun t130 => (if x1 ≤ (t130.size : Int) then (bolterlaw12_PrefixCut.j3 k x1 t129 x22 x23 x24 ((t129.extract 0 (x1 : Int).toNat).toList != (t130.extract 0 (x1 : Int).toNat).toList)) else (none))) else (none)) else (none)) else (bolterlaw12_PrefixCut.j3 k x1 t129 x22 x23 x24 true)) else (bolterlaw12_PrefixCut.j3 k x1 t129 x22 x23 x24 true))) else (if (!(x128000.toList == ([] : List UInt8)) || (!(x128001 == 0))) = true then (some false) else (bolterlaw12_PrefixCut.l0 k x1 x22 x23 (wrap64 (x24 + 1)))))
def bolterlaw12_PrefixCut.j3 : Nat → Int → ByteArray → List ByteArray → Int → Int → Bool → Option (Bool)
  | 0, _, _, _, _, _, _ => none
  | k + 1, x1, x14, x22, x23, x24, x98 => if x98 = true then (some false) else (bolterlaw12_PrefixCut.l1 k x1 x14 x1 x22 x23 x24)
def bolterlaw12_PrefixCut.l1 : Nat → Int → ByteArray → Int → List ByteArray → Int → Int → Option (Bool)
  | 0, _, _, _, _, _, _ => none
  | k + 1, x1, x14, x15, x22, x23, x24 => if x15 < (x14.size : Int) then (if 0 ≤ x15 then (if (bt x14 x15) = 48 then (bolterlaw12_PrefixCut.l1 k x1 x14 (wrap64 (x15 + 1)) x22 x23 x24) else (some false)) else (none)) else (bolterlaw12_PrefixCut.l0 k x1 x22 x23 (wrap64 (x24 + 1)))
end
def bolterlaw12_PrefixCut.f (k : Nat) (a0 : ByteArray) (a1 : Int) (a2 : Bool) (l3 : List Int) : Option (Bool) := (bolterlaw12_awake.f).bind fun t118 => (if t118 = true then ((bolterlaw12_Addr.f k a2 l3).bind fun t119 => ((some (([a0, t119] : List ByteArray) : List ByteArray)).bind fun y120 => (bolterlaw12_PrefixCut.l0 k a1 y120 (y120.length : Int) 0))) else (some false))
theorem bolterlaw12_PrefixCut.mono_l : ∀ k, (∀ y0 y1 y2 y3, LeO (bolterlaw12_PrefixCut.l0 k y0 y1 y2 y3) (bolterlaw12_PrefixCut.l0 (k + 1) y0 y1 y2 y3)) ∧ (∀ y0 y1 y2 y3 y4 y5 y6 y7 y8, LeO (bolterlaw12_PrefixCut.j1 k y0 y1 y2 y3 y4 y5 y6 y7 y8) (bolterlaw12_PrefixCut.j1 (k + 1) y0 y1 y2 y3 y4 y5 y6 y7 y8)) ∧ (∀ y0 y1 y2 y3 y4 y5 y6 y7 y8, LeO (bolterlaw12_PrefixCut.j2 k y0 y1 y2 y3 y4 y5 y6 y7 y8) (bolterlaw12_PrefixCut.j2 (k + 1) y0 y1 y2 y3 y4 y5 y6 y7 y8)) ∧ (∀ y0 y1 y2 y3 y4 y5, LeO (bolterlaw12_PrefixCut.j3 k y0 y1 y2 y3 y4 y5) (bolterlaw12_PrefixCut.j3 (k + 1) y0 y1 y2 y3 y4 y5)) ∧ (∀ y0 y1 y2 y3 y4 y5, LeO (bolterlaw12_PrefixCut.l1 k y0 y1 y2 y3 y4 y5) (bolterlaw12_PrefixCut.l1 (k + 1) y0 y1 y2 y3 y4 y5))
  | 0 => ⟨fun _ _ _ _ r h => by simp [bolterlaw12_PrefixCut.l0] at h, fun _ _ _ _ _ _ _ _ _ r h => by simp [bolterlaw12_PrefixCut.j1] at h, fun _ _ _ _ _ _ _ _ _ r h => by simp [bolterlaw12_PrefixCut.j2] at h, fun _ _ _ _ _ _ r h => by simp [bolterlaw12_PrefixCut.j3] at h, fun _ _ _ _ _ _ r h => by simp [bolterlaw12_PrefixCut.l1] at h⟩
  | k + 1 => by
    obtain ⟨ih0, ih1, ih2, ih3, ih4⟩ := bolterlaw12_PrefixCut.mono_l k
    refine ⟨?_, ?_, ?_, ?_, ?_⟩
    · intro y0 y1 y2 y3
      unfold bolterlaw12_PrefixCut.l0
      repeat' first
      | (with_reducible exact ih0 _ _ _ _)
      | (with_reducible exact ih1 _ _ _ _ _ _ _ _ _)
      | (with_reducible exact ih2 _ _ _ _ _ _ _ _ _)
      | (with_reducible exact ih3 _ _ _ _ _ _)
      | (with_reducible exact ih4 _ _ _ _ _ _)
      | (with_reducible exact bolterlaw12_Addr.mono _ _ _)
      | (with_reducible exact bolterlaw12_bits.mono _ _)
      | (with_reducible exact LeO.refl _)
      | (with_reducible exact LeO.none _)
      | (with_reducible refine LeO.ite ?_ ?_)
      | (with_reducible refine LeO.bind ?_ (fun _ => ?_))
      | exact ih0 _ _ _ _
      | exact ih1 _ _ _ _ _ _ _ _ _
      | exact ih2 _ _ _ _ _ _ _ _ _
      | exact ih3 _ _ _ _ _ _
      | exact ih4 _ _ _ _ _ _
      | exact bolterlaw12_Addr.mono _ _ _
      | exact bolterlaw12_bits.mono _ _
      | exact LeO.none _
      | refine LeO.ite ?_ ?_
      | refine LeO.bind ?_ (fun _ => ?_)
    · intro y0 y1 y2 y3 y4 y5 y6 y7 y8
      unfold bolterlaw12_PrefixCut.j1
      repeat' first
      | (with_reducible exact ih0 _ _ _ _)
      | (with_reducible exact ih1 _ _ _ _ _ _ _ _ _)
      | (with_reducible exact ih2 _ _ _ _ _ _ _ _ _)
      | (with_reducible exact ih3 _ _ _ _ _ _)
      | (with_reducible exact ih4 _ _ _ _ _ _)
      | (with_reducible exact bolterlaw12_Addr.mono _ _ _)
      | (with_reducible exact bolterlaw12_bits.mono _ _)
      | (with_reducible exact LeO.refl _)
      | (with_reducible exact LeO.none _)
      | (with_reducible refine LeO.ite ?_ ?_)
      | (with_reducible refine LeO.bind ?_ (fun _ => ?_))
      | exact ih0 _ _ _ _
      | exact ih1 _ _ _ _ _ _ _ _ _
      | exact ih2 _ _ _ _ _ _ _ _ _
      | exact ih3 _ _ _ _ _ _
      | exact ih4 _ _ _ _ _ _
      | exact bolterlaw12_Addr.mono _ _ _
      | exact bolterlaw12_bits.mono _ _
      | exact LeO.none _
      | refine LeO.ite ?_ ?_
      | refine LeO.bind ?_ (fun _ => ?_)
    · intro y0 y1 y2 y3 y4 y5 y6 y7 y8
      unfold bolterlaw12_PrefixCut.j2
      repeat' first
      | (with_reducible exact ih0 _ _ _ _)
      | (with_reducible exact ih1 _ _ _ _ _ _ _ _ _)
      | (with_reducible exact ih2 _ _ _ _ _ _ _ _ _)
      | (with_reducible exact ih3 _ _ _ _ _ _)
      | (with_reducible exact ih4 _ _ _ _ _ _)
      | (with_reducible exact bolterlaw12_Addr.mono _ _ _)
      | (with_reducible exact bolterlaw12_bits.mono _ _)
      | (with_reducible exact LeO.refl _)
      | (with_reducible exact LeO.none _)
      | (with_reducible refine LeO.ite ?_ ?_)
      | (with_reducible refine LeO.bind ?_ (fun _ => ?_))
      | exact ih0 _ _ _ _
      | exact ih1 _ _ _ _ _ _ _ _ _
      | exact ih2 _ _ _ _ _ _ _ _ _
      | exact ih3 _ _ _ _ _ _
      | exact ih4 _ _ _ _ _ _
      | exact bolterlaw12_Addr.mono _ _ _
      | exact bolterlaw12_bits.mono _ _
      | exact LeO.none _
      | refine LeO.ite ?_ ?_
      | refine LeO.bind ?_ (fun _ => ?_)
    · intro y0 y1 y2 y3 y4 y5
      unfold bolterlaw12_PrefixCut.j3
      repeat' first
      | (with_reducible exact ih0 _ _ _ _)
      | (with_reducible exact ih1 _ _ _ _ _ _ _ _ _)
      | (with_reducible exact ih2 _ _ _ _ _ _ _ _ _)
      | (with_reducible exact ih3 _ _ _ _ _ _)
      | (with_reducible exact ih4 _ _ _ _ _ _)
      | (with_reducible exact bolterlaw12_Addr.mono _ _ _)
      | (with_reducible exact bolterlaw12_bits.mono _ _)
      | (with_reducible exact LeO.refl _)
      | (with_reducible exact LeO.none _)
      | (with_reducible refine LeO.ite ?_ ?_)
      | (with_reducible refine LeO.bind ?_ (fun _ => ?_))
      | exact ih0 _ _ _ _
      | exact ih1 _ _ _ _ _ _ _ _ _
      | exact ih2 _ _ _ _ _ _ _ _ _
      | exact ih3 _ _ _ _ _ _
      | exact ih4 _ _ _ _ _ _
      | exact bolterlaw12_Addr.mono _ _ _
      | exact bolterlaw12_bits.mono _ _
      | exact LeO.none _
      | refine LeO.ite ?_ ?_
      | refine LeO.bind ?_ (fun _ => ?_)
    · intro y0 y1 y2 y3 y4 y5
      unfold bolterlaw12_PrefixCut.l1
      repeat' first
      | (with_reducible exact ih0 _ _ _ _)
      | (with_reducible exact ih1 _ _ _ _ _ _ _ _ _)
      | (with_reducible exact ih2 _ _ _ _ _ _ _ _ _)
      | (with_reducible exact ih3 _ _ _ _ _ _)
      | (with_reducible exact ih4 _ _ _ _ _ _)
      | (with_reducible exact bolterlaw12_Addr.mono _ _ _)
      | (with_reducible exact bolterlaw12_bits.mono _ _)
      | (with_reducible exact LeO.refl _)
      | (with_reducible exact LeO.none _)
      | (with_reducible refine LeO.ite ?_ ?_)
      | (with_reducible refine LeO.bind ?_ (fun _ => ?_))
      | exact ih0 _ _ _ _
      | exact ih1 _ _ _ _ _ _ _ _ _
      | exact ih2 _ _ _ _ _ _ _ _ _
      | exact ih3 _ _ _ _ _ _
      | exact ih4 _ _ _ _ _ _
      | exact bolterlaw12_Addr.mono _ _ _
      | exact bolterlaw12_bits.mono _ _
      | exact LeO.none _
      | refine LeO.ite ?_ ?_
      | refine LeO.bind ?_ (fun _ => ?_)
theorem bolterlaw12_PrefixCut.mono : ∀ a0 a1 a2 a3 k, LeO (bolterlaw12_PrefixCut.f k a0 a1 a2 a3) (bolterlaw12_PrefixCut.f (k + 1) a0 a1 a2 a3) := by
  intro a0 a1 a2 a3 k
  obtain ⟨ih0, ih1, ih2, ih3, ih4⟩ := bolterlaw12_PrefixCut.mono_l k
  unfold bolterlaw12_PrefixCut.f
  repeat' first
      | (with_reducible exact ih0 _ _ _ _)
      | (with_reducible exact ih1 _ _ _ _ _ _ _ _ _)
      | (with_reducible exact ih2 _ _ _ _ _ _ _ _ _)
      | (with_reducible exact ih3 _ _ _ _ _ _)
      | (with_reducible exact ih4 _ _ _ _ _ _)
      | (with_reducible exact bolterlaw12_Addr.mono _ _ _)
      | (with_reducible exact bolterlaw12_bits.mono _ _)
      | (with_reducible exact LeO.refl _)
      | (with_reducible exact LeO.none _)
      | (with_reducible refine LeO.ite ?_ ?_)
      | (with_reducible refine LeO.bind ?_ (fun _ => ?_))
      | exact ih0 _ _ _ _
      | exact ih1 _ _ _ _ _ _ _ _ _
      | exact ih2 _ _ _ _ _ _ _ _ _
      | exact ih3 _ _ _ _ _ _
      | exact ih4 _ _ _ _ _ _
      | exact bolterlaw12_Addr.mono _ _ _
      | exact bolterlaw12_bits.mono _ _
      | exact LeO.none _
      | refine LeO.ite ?_ ?_
      | refine LeO.bind ?_ (fun _ => ?_)
set_option maxHeartbeats 8000000 in
set_option maxRecDepth 100000 in
theorem bolterlaw12_PrefixCut.calls (k : Nat) (a0 : ByteArray) (a1 : Int) (a2 : Bool) (A3 : Option Addr) (c3 : Nat) (l3 : List Int) (r : Bool) (w : World) (hr3 : Kd.C (Kd.int .u8) w A3 l3.length l3) (hc3 : l3.length ≤ c3) (h : bolterlaw12_PrefixCut.f k a0 a1 a2 l3 = some r) :
    Calls Try.prog 8 #[.string a0, .int .i64 a1, .bool a2, .slice A3 l3.length c3] w fun e w' => e = .returned (.bool r) ∧ Below w.heap.size w w' := by
  have hu39 := Try.underlying39
  have HR3 := Aside0.mk hr3
  have HC3 := Aside0.mk hc3
  clear hr3 hc3
  have HB := Aside0.mk (Below.refl w.heap.size w)
  have H : ((bolterlaw12_awake.f).bind fun t118 => (if t118 = true then ((bolterlaw12_Addr.f k a2 l3).bind fun t119 => ((some (([a0, t119] : List ByteArray) : List ByteArray)).bind fun y120 => (bolterlaw12_PrefixCut.l0 k a1 y120 (y120.length : Int) 0))) else (some false))) = some r := h
  clear h
  replace H := Option.bind_eq_some_iff.mp H
  obtain ⟨t118, A50, H⟩ := H
  replace H : (if t118 = true then ((bolterlaw12_Addr.f k a2 l3).bind fun t119 => ((some (([a0, t119] : List ByteArray) : List ByteArray)).bind fun y120 => (bolterlaw12_PrefixCut.l0 k a1 y120 (y120.length : Int) 0))) else (some false)) = some r := H
  have A5 := Aside0.mk A50
  clear A50
  by_cases c6 : t118 = true
  · subst c6
    have H1 : ((bolterlaw12_Addr.f k a2 l3).bind fun t119 => ((some (([a0, t119] : List ByteArray) : List ByteArray)).bind fun y120 => (bolterlaw12_PrefixCut.l0 k a1 y120 (y120.length : Int) 0))) = some r := by rw [if_pos rfl] at H; exact H
    clear H
    have H := H1
    clear H1
    replace H := Option.bind_eq_some_iff.mp H
    obtain ⟨t119, A70, H⟩ := H
    replace H : ((some (([a0, t119] : List ByteArray) : List ByteArray)).bind fun y120 => (bolterlaw12_PrefixCut.l0 k a1 y120 (y120.length : Int) 0)) = some r := H
    have A7 := Aside0.mk A70
    clear A70
    obtain ⟨y120, hy120⟩ : ∃ y_ : List ByteArray, y_ = (([a0, t119] : List ByteArray)) := ⟨_, rfl⟩
    replace H : (bolterlaw12_PrefixCut.l0 k a1 y120 (y120.length : Int) 0) = some r := by first | (rw [hy120]; with_reducible exact H) | (have H2_ := (Option.bind_some _ _).symm.trans H; rw [hy120]; with_reducible exact H2_) | (have H2_ := (Option.bind_some _ _).symm.trans H; with_reducible exact H2_) | with_reducible exact H | (rw [hy120]; exact H) | exact H
    have Ny120 := Aside0.mk hy120
    clear hy120
    have H' := Aside0.mk H
    clear H
    go_enter Try.func8, Try.ntmps8
    go_wp2_with (first | (go_at_call 19; (with_reducible refine (bolterlaw12_awake.calls  true _ A5.out).mono ?_); rintro e w8 ⟨rfl, hb⟩; have n0_ := Aside0.mk (below_step (by repeat (first | (with_reducible first | exact HB.out | apply below_alloc | apply pw_below_drewN | apply below_drew1) | exact HB.out)) hb); clear HB; have HB := n0_; clear n0_; (try clear hb); (try clear hb2); (try clear hk); (try clear hi)) | (go_at_call 20; (with_reducible refine (bolterlaw12_Addr.calls k a2 _ _ l3 t119 _ ?side1 ?side2 A7.out).mono ?_); (case side1 => repeat (first | exact (Kd.C_below HR3.out HB.out) | (with_reducible refine Kd.C_alloc ?_ _) | (with_reducible refine Kd.C_drewN ?_ _) | (with_reducible refine Kd.C_drew ?_))); (case side2 => exact HC3.out); rintro e w9 ⟨rfl, hb⟩; have n0_ := Aside0.mk (below_step (by repeat (first | (with_reducible first | exact HB.out | apply below_alloc | apply pw_below_drewN | apply below_drew1) | exact HB.out)) hb); clear HB; have HB := n0_; clear n0_; (try clear hb); (try clear hb2); (try clear hk); (try clear hi)) | ((with_reducible refine gate_dst (N := 22) rfl ?_); (try (refine gate_guard (by rfl) ?_; dsimp only)); refine Kd.R_lit Kd.string _ 9 ?hg (N := 22) ?hd (xs := ([a0, t119] : List ByteArray)) (inner := [.string a0, .string t119]) (ok := fun _ => True) (okp := fun _ => True) ?hr ?hp (fun _ hk => hk) trivial (Below.refl _ _) (Nat.le_refl _) (by simp) ?_; (case hd => rfl); (case hg => rfl); (case hr => first | (go_simp; done) | (go_simp; rfl)); (case hp => exact (Reps.one (show Kd.M Kd.string _ _ _ a0 [.string a0] from rfl) (Reps.one (show Kd.M Kd.string _ _ _ t119 [.string t119] from rfl) (Reps.none _ _)))); intro v121 w10 ho11 hb hg_ hnew_; clear hg_ hnew_; (first | rw [← Ny120.out] at ho11 | (simp only [Int.reduceToNat] at ho11; rw [← Ny120.out] at ho11)); have n0_ := Aside0.mk (Kd.R_lower ho11 (below_size (by repeat (first | (with_reducible first | exact HB.out | apply below_alloc | apply pw_below_drewN | apply below_drew1) | exact HB.out)))); have n1_ := Aside0.mk (below_step (by repeat (first | (with_reducible first | exact HB.out | apply below_alloc | apply pw_below_drewN | apply below_drew1) | exact HB.out)) hb); clear HB; have HO122 := n0_; have HB := n1_; clear n0_ n1_; clear hb ho11; obtain ⟨Ao12, co12, eo12⟩ := Kd.R_slice HO122.out; subst eo12))
    repeat (go_quiet (first | (go_at_call 19; (with_reducible refine (bolterlaw12_awake.calls  true _ A5.out).mono ?_); rintro e w8 ⟨rfl, hb⟩; have n0_ := Aside0.mk (below_step (by repeat (first | (with_reducible first | exact HB.out | apply below_alloc | apply pw_below_drewN | apply below_drew1) | exact HB.out)) hb); clear HB; have HB := n0_; clear n0_; (try clear hb); (try clear hb2); (try clear hk); (try clear hi)) | (go_at_call 20; (with_reducible refine (bolterlaw12_Addr.calls k a2 _ _ l3 t119 _ ?side1 ?side2 A7.out).mono ?_); (case side1 => repeat (first | exact (Kd.C_below HR3.out HB.out) | (with_reducible refine Kd.C_alloc ?_ _) | (with_reducible refine Kd.C_drewN ?_ _) | (with_reducible refine Kd.C_drew ?_))); (case side2 => exact HC3.out); rintro e w9 ⟨rfl, hb⟩; have n0_ := Aside0.mk (below_step (by repeat (first | (with_reducible first | exact HB.out | apply below_alloc | apply pw_below_drewN | apply below_drew1) | exact HB.out)) hb); clear HB; have HB := n0_; clear n0_; (try clear hb); (try clear hb2); (try clear hk); (try clear hi)) | ((with_reducible refine gate_dst (N := 22) rfl ?_); (try (refine gate_guard (by rfl) ?_; dsimp only)); refine Kd.R_lit Kd.string _ 9 ?hg (N := 22) ?hd (xs := ([a0, t119] : List ByteArray)) (inner := [.string a0, .string t119]) (ok := fun _ => True) (okp := fun _ => True) ?hr ?hp (fun _ hk => hk) trivial (Below.refl _ _) (Nat.le_refl _) (by simp) ?_; (case hd => rfl); (case hg => rfl); (case hr => first | (go_simp; done) | (go_simp; rfl)); (case hp => exact (Reps.one (show Kd.M Kd.string _ _ _ a0 [.string a0] from rfl) (Reps.one (show Kd.M Kd.string _ _ _ t119 [.string t119] from rfl) (Reps.none _ _)))); intro v121 w10 ho11 hb hg_ hnew_; clear hg_ hnew_; (first | rw [← Ny120.out] at ho11 | (simp only [Int.reduceToNat] at ho11; rw [← Ny120.out] at ho11)); have n0_ := Aside0.mk (Kd.R_lower ho11 (below_size (by repeat (first | (with_reducible first | exact HB.out | apply below_alloc | apply pw_below_drewN | apply below_drew1) | exact HB.out)))); have n1_ := Aside0.mk (below_step (by repeat (first | (with_reducible first | exact HB.out | apply below_alloc | apply pw_below_drewN | apply below_drew1) | exact HB.out)) hb); clear HB; have HO122 := n0_; have HB := n1_; clear n0_ n1_; clear hb ho11; obtain ⟨Ao12, co12, eo12⟩ := Kd.R_slice HO122.out; subst eo12)); try go_wp2_with (first | (go_at_call 19; (with_reducible refine (bolterlaw12_awake.calls  true _ A5.out).mono ?_); rintro e w8 ⟨rfl, hb⟩; have n0_ := Aside0.mk (below_step (by repeat (first | (with_reducible first | exact HB.out | apply below_alloc | apply pw_below_drewN | apply below_drew1) | exact HB.out)) hb); clear HB; have HB := n0_; clear n0_; (try clear hb); (try clear hb2); (try clear hk); (try clear hi)) | (go_at_call 20; (with_reducible refine (bolterlaw12_Addr.calls k a2 _ _ l3 t119 _ ?side1 ?side2 A7.out).mono ?_); (case side1 => repeat (first | exact (Kd.C_below HR3.out HB.out) | (with_reducible refine Kd.C_alloc ?_ _) | (with_reducible refine Kd.C_drewN ?_ _) | (with_reducible refine Kd.C_drew ?_))); (case side2 => exact HC3.out); rintro e w9 ⟨rfl, hb⟩; have n0_ := Aside0.mk (below_step (by repeat (first | (with_reducible first | exact HB.out | apply below_alloc | apply pw_below_drewN | apply below_drew1) | exact HB.out)) hb); clear HB; have HB := n0_; clear n0_; (try clear hb); (try clear hb2); (try clear hk); (try clear hi)) | ((with_reducible refine gate_dst (N := 22) rfl ?_); (try (refine gate_guard (by rfl) ?_; dsimp only)); refine Kd.R_lit Kd.string _ 9 ?hg (N := 22) ?hd (xs := ([a0, t119] : List ByteArray)) (inner := [.string a0, .string t119]) (ok := fun _ => True) (okp := fun _ => True) ?hr ?hp (fun _ hk => hk) trivial (Below.refl _ _) (Nat.le_refl _) (by simp) ?_; (case hd => rfl); (case hg => rfl); (case hr => first | (go_simp; done) | (go_simp; rfl)); (case hp => exact (Reps.one (show Kd.M Kd.string _ _ _ a0 [.string a0] from rfl) (Reps.one (show Kd.M Kd.string _ _ _ t119 [.string t119] from rfl) (Reps.none _ _)))); intro v121 w10 ho11 hb hg_ hnew_; clear hg_ hnew_; (first | rw [← Ny120.out] at ho11 | (simp only [Int.reduceToNat] at ho11; rw [← Ny120.out] at ho11)); have n0_ := Aside0.mk (Kd.R_lower ho11 (below_size (by repeat (first | (with_reducible first | exact HB.out | apply below_alloc | apply pw_below_drewN | apply below_drew1) | exact HB.out)))); have n1_ := Aside0.mk (below_step (by repeat (first | (with_reducible first | exact HB.out | apply below_alloc | apply pw_below_drewN | apply below_drew1) | exact HB.out)) hb); clear HB; have HO122 := n0_; have HB := n1_; clear n0_ n1_; clear hb ho11; obtain ⟨Ao12, co12, eo12⟩ := Kd.R_slice HO122.out; subst eo12)))
    go_loopg [24] k (fun kq v24 w' => ∃ (x24_1 : Int), v24 = .int .i64 x24_1 ∧ Aside0 (bolterlaw12_PrefixCut.l0 kq a1 y120 (y120.length : Int) x24_1 = some r) ∧ Aside0 (kq ≤ k) ∧ Aside0 (Kd.R Kd.string 9 w' w.heap.size (fun _ => True) (.slice Ao12 y120.length co12) y120) ∧ Aside0 (Below w.heap.size w w'))
    case atStart => exact ⟨(0), (by first | rfl | (simp; done) | (simp [*]; done)), H', ⟨Nat.le_refl _⟩, ⟨by (with_reducible repeat (first | apply Kd.R_alloc | apply Kd.R_drewN | apply Kd.R_drew)); exact HO122.out⟩, ⟨by repeat (first | (with_reducible first | exact HB.out | apply below_alloc | apply pw_below_drewN | apply below_drew1) | exact HB.out)⟩⟩
    case round =>
      clear H'
      try clear p2
      try clear c3
      try clear c6
      try clear c8
      obtain ⟨x24_1, rfl, HA, HK1, HO_22, HB⟩ := hrel
      cases gk with
      | zero => exact absurd HA.out (by simp [bolterlaw12_PrefixCut.l0])
      | succ k1 =>
        have H := HA.out
        clear HA
        simp only [bolterlaw12_PrefixCut.l0] at H
        by_cases c13 : x24_1 < (y120.length : Int)
        · rw [if_pos c13] at H
          have c13b0 : decide (x24_1 < (y120.length : Int)) = true := decide_eq_true c13
          clear c13
          by_cases c14 : 0 ≤ x24_1
          · rw [if_pos c14] at H
            have c14b0 : decide (0 ≤ x24_1) = true := decide_eq_true c14
            clear c14
            by_cases c15 : x24_1 < (y120.length : Int)
            · rw [if_pos c15] at H
              have c15b0 : decide (x24_1 < (y120.length : Int)) = true := decide_eq_true c15
              clear c15
              replace H := Option.bind_eq_some_iff.mp H
              obtain ⟨⟨t124, t125, t126⟩, A160, H⟩ := H
              replace H : (if ((rdOf ByteArray.empty y120 x24_1).size : Int) = 4 then (if a1 ≥ 0 then (bolterlaw12_PrefixCut.j1 k1 a1 (rdOf ByteArray.empty y120 x24_1) t126 (decide (a1 ≤ (wrap64 (8 * ((rdOf ByteArray.empty y120 x24_1).size : Int))))) y120 (y120.length : Int) x24_1 t124 t125) else (bolterlaw12_PrefixCut.j1 k1 a1 (rdOf ByteArray.empty y120 x24_1) t126 false y120 (y120.length : Int) x24_1 t124 t125)) else (if ((rdOf ByteArray.empty y120 x24_1).size : Int) = 16 then (if a1 ≥ 0 then (bolterlaw12_PrefixCut.j1 k1 a1 (rdOf ByteArray.empty y120 x24_1) t126 (decide (a1 ≤ (wrap64 (8 * ((rdOf ByteArray.empty y120 x24_1).size : Int))))) y120 (y120.length : Int) x24_1 t124 t125) else (bolterlaw12_PrefixCut.j1 k1 a1 (rdOf ByteArray.empty y120 x24_1) t126 false y120 (y120.length : Int) x24_1 t124 t125)) else (bolterlaw12_PrefixCut.j1 k1 a1 (rdOf ByteArray.empty y120 x24_1) t126 false y120 (y120.length : Int) x24_1 t124 t125))) = some r := H
              have A16 := Aside0.mk A160
              clear A160
              have HC17 := Aside0.mk H
              clear H
              have p123 : 0 ≤ (x24_1 : Int) := of_decide_eq_true (by first | (with_reducible assumption) | assumption)
              have q123 : x24_1 < (y120.length : Int) := of_decide_eq_true (by first | (with_reducible assumption) | assumption)
              obtain ⟨ad123, e123, hx123_0⟩ := Kd.at_string (Kd.R_reads' HO_22.out).2.2 x24_1 p123 q123
              cases e123
              replace p123 := eq_true p123
              replace q123 := eq_true q123
              go_upto_region 7 with (first | (go_at_call 21; (with_reducible refine (prefix_Cut.calls (rdOf ByteArray.empty y120 x24_1) a1 t124 t125 t126 _ A16.out).mono ?_); rintro e w18 ⟨rfl, hb⟩; have n0_ := Aside0.mk (Kd.R_below (by (with_reducible repeat (first | apply Kd.R_alloc | apply Kd.R_drewN | apply Kd.R_drew)); exact HO_22.out) hb); have n1_ := Aside0.mk (below_step (by repeat (first | (with_reducible first | exact HB.out | apply below_alloc | apply pw_below_drewN | apply below_drew1) | exact HB.out)) hb); clear HO_22; clear HB; have HO_22 := n0_; have HB := n1_; clear n0_ n1_; (try clear hb); (try clear hb2); (try clear hk); (try clear hi)) | ((with_reducible refine gate_dst (N := 11) rfl ?_); (try (refine gate_guard (by rfl) ?_; dsimp only)); refine box_event ?hg (N := 11) ?hd (cs := #[.string (⟨#[]⟩ : ByteArray), .int .i64 0]) (t := 39) ?hr ?_; (case hd => rfl); (case hg => rfl); (case hr => first | (go_simp; done) | (go_simp; rfl)); intro gb127 hg w19 hbox hb; have n0_ := Aside0.mk (Kd.R_below (by (with_reducible repeat (first | apply Kd.R_alloc | apply Kd.R_drewN | apply Kd.R_drew)); exact HO_22.out) hb); have n1_ := Aside0.mk (below_step (by repeat (first | (with_reducible first | exact HB.out | apply below_alloc | apply pw_below_drewN | apply below_drew1) | exact HB.out)) hb); have n2_ := Aside0.mk (hbox); have n3_ := Aside0.mk ((by rw [hg]; exact (below_size (by repeat (first | (with_reducible first | exact HB.out | apply below_alloc | apply pw_below_drewN | apply below_drew1) | exact HB.out))) : w.heap.size ≤ gb127)); have n4_ := Aside0.mk ((by rw [hg]; exact (below_size (by repeat (first | (with_reducible first | exact HB.out | apply below_alloc | apply pw_below_drewN | apply below_drew1) | exact HB.out))) : w.heap.size ≤ gb127)); clear HO_22; clear HB; have HO_22 := n0_; have HB := n1_; have BK127 := n2_; have GW127 := n3_; have GE127 := n4_; clear n0_ n1_ n2_ n3_ n4_; clear hb hbox hg; have hcz20_0 : w19.cell? ⟨gb127, 0, none⟩ = some (.string (⟨#[]⟩ : ByteArray)) := (blk_cell BK127.out 0).trans rfl; have hcz20_1 : w19.cell? ⟨gb127, 1, none⟩ = some (.int .i64 0) := (blk_cell BK127.out 1).trans rfl; have hfz20_0 := blk_frozen BK127.out 0; have hfz20_1 := blk_frozen BK127.out 1))
              repeat (go_quiet (first | (go_at_call 21; (with_reducible refine (prefix_Cut.calls (rdOf ByteArray.empty y120 x24_1) a1 t124 t125 t126 _ A16.out).mono ?_); rintro e w18 ⟨rfl, hb⟩; have n0_ := Aside0.mk (Kd.R_below (by (with_reducible repeat (first | apply Kd.R_alloc | apply Kd.R_drewN | apply Kd.R_drew)); exact HO_22.out) hb); have n1_ := Aside0.mk (below_step (by repeat (first | (with_reducible first | exact HB.out | apply below_alloc | apply pw_below_drewN | apply below_drew1) | exact HB.out)) hb); clear HO_22; clear HB; have HO_22 := n0_; have HB := n1_; clear n0_ n1_; (try clear hb); (try clear hb2); (try clear hk); (try clear hi)) | ((with_reducible refine gate_dst (N := 11) rfl ?_); (try (refine gate_guard (by rfl) ?_; dsimp only)); refine box_event ?hg (N := 11) ?hd (cs := #[.string (⟨#[]⟩ : ByteArray), .int .i64 0]) (t := 39) ?hr ?_; (case hd => rfl); (case hg => rfl); (case hr => first | (go_simp; done) | (go_simp; rfl)); intro gb127 hg w19 hbox hb; have n0_ := Aside0.mk (Kd.R_below (by (with_reducible repeat (first | apply Kd.R_alloc | apply Kd.R_drewN | apply Kd.R_drew)); exact HO_22.out) hb); have n1_ := Aside0.mk (below_step (by repeat (first | (with_reducible first | exact HB.out | apply below_alloc | apply pw_below_drewN | apply below_drew1) | exact HB.out)) hb); have n2_ := Aside0.mk (hbox); have n3_ := Aside0.mk ((by rw [hg]; exact (below_size (by repeat (first | (with_reducible first | exact HB.out | apply below_alloc | apply pw_below_drewN | apply below_drew1) | exact HB.out))) : w.heap.size ≤ gb127)); have n4_ := Aside0.mk ((by rw [hg]; exact (below_size (by repeat (first | (with_reducible first | exact HB.out | apply below_alloc | apply pw_below_drewN | apply below_drew1) | exact HB.out))) : w.heap.size ≤ gb127)); clear HO_22; clear HB; have HO_22 := n0_; have HB := n1_; have BK127 := n2_; have GW127 := n3_; have GE127 := n4_; clear n0_ n1_ n2_ n3_ n4_; clear hb hbox hg; have hcz20_0 : w19.cell? ⟨gb127, 0, none⟩ = some (.string (⟨#[]⟩ : ByteArray)) := (blk_cell BK127.out 0).trans rfl; have hcz20_1 : w19.cell? ⟨gb127, 1, none⟩ = some (.int .i64 0) := (blk_cell BK127.out 1).trans rfl; have hfz20_0 := blk_frozen BK127.out 0; have hfz20_1 := blk_frozen BK127.out 1)); go_upto_region 7 with (first | (go_at_call 21; (with_reducible refine (prefix_Cut.calls (rdOf ByteArray.empty y120 x24_1) a1 t124 t125 t126 _ A16.out).mono ?_); rintro e w18 ⟨rfl, hb⟩; have n0_ := Aside0.mk (Kd.R_below (by (with_reducible repeat (first | apply Kd.R_alloc | apply Kd.R_drewN | apply Kd.R_drew)); exact HO_22.out) hb); have n1_ := Aside0.mk (below_step (by repeat (first | (with_reducible first | exact HB.out | apply below_alloc | apply pw_below_drewN | apply below_drew1) | exact HB.out)) hb); clear HO_22; clear HB; have HO_22 := n0_; have HB := n1_; clear n0_ n1_; (try clear hb); (try clear hb2); (try clear hk); (try clear hi)) | ((with_reducible refine gate_dst (N := 11) rfl ?_); (try (refine gate_guard (by rfl) ?_; dsimp only)); refine box_event ?hg (N := 11) ?hd (cs := #[.string (⟨#[]⟩ : ByteArray), .int .i64 0]) (t := 39) ?hr ?_; (case hd => rfl); (case hg => rfl); (case hr => first | (go_simp; done) | (go_simp; rfl)); intro gb127 hg w19 hbox hb; have n0_ := Aside0.mk (Kd.R_below (by (with_reducible repeat (first | apply Kd.R_alloc | apply Kd.R_drewN | apply Kd.R_drew)); exact HO_22.out) hb); have n1_ := Aside0.mk (below_step (by repeat (first | (with_reducible first | exact HB.out | apply below_alloc | apply pw_below_drewN | apply below_drew1) | exact HB.out)) hb); have n2_ := Aside0.mk (hbox); have n3_ := Aside0.mk ((by rw [hg]; exact (below_size (by repeat (first | (with_reducible first | exact HB.out | apply below_alloc | apply pw_below_drewN | apply below_drew1) | exact HB.out))) : w.heap.size ≤ gb127)); have n4_ := Aside0.mk ((by rw [hg]; exact (below_size (by repeat (first | (with_reducible first | exact HB.out | apply below_alloc | apply pw_below_drewN | apply below_drew1) | exact HB.out))) : w.heap.size ≤ gb127)); clear HO_22; clear HB; have HO_22 := n0_; have HB := n1_; have BK127 := n2_; have GW127 := n3_; have GE127 := n4_; clear n0_ n1_ n2_ n3_ n4_; clear hb hbox hg; have hcz20_0 : w19.cell? ⟨gb127, 0, none⟩ = some (.string (⟨#[]⟩ : ByteArray)) := (blk_cell BK127.out 0).trans rfl; have hcz20_1 : w19.cell? ⟨gb127, 1, none⟩ = some (.int .i64 0) := (blk_cell BK127.out 1).trans rfl; have hfz20_0 := blk_frozen BK127.out 0; have hfz20_1 := blk_frozen BK127.out 1)))
              (try simp only [Act.put, List.setIfInBounds_toArray, List.set_cons_zero, List.set_cons_succ])
              go_cut [13] (fun v13 wc => ∃ (kq : Nat) (x13_16 : Bool), v13 = .bool x13_16 ∧ Aside0 (bolterlaw12_PrefixCut.j1 kq a1 (rdOf ByteArray.empty y120 x24_1) t126 x13_16 y120 (y120.length : Int) x24_1 t124 t125 = some r) ∧ Aside0 (kq ≤ k1) ∧ Aside0 (Kd.R Kd.string 9 wc w.heap.size (fun _ => True) (.slice (some ad123) y120.length co12) y120) ∧ Aside0 (wc.heap[gb127]? = some (.cells #[.string t124, .int .i64 t125] 39 (0, 0))) ∧ Aside0 (Below w.heap.size w wc))
              case first =>
                have H := HC17.out
                clear HC17
                by_cases c21 : ((rdOf ByteArray.empty y120 x24_1).size : Int) = 4
                · rw [if_pos c21] at H
                  have c21b0 : (((rdOf ByteArray.empty y120 x24_1).size : Int) == 4) = true := beq_iff_eq.mpr c21
                  have c21b1 : (((rdOf ByteArray.empty y120 x24_1).size : Int) != 4) = false := bne_eq_false_iff_eq.mpr c21
                  clear c21
                  (first | rw [c21b0] | (simp only [i64_w, i32_w]; rw [c21b0]) | skip)
                  by_cases c22 : a1 ≥ 0
                  · rw [if_pos c22] at H
                    have c22b0 : decide (0 ≤ a1) = true := decide_eq_true c22
                    clear c22
                    have H' := Aside0.mk H
                    clear H
                    go_wp2
                    repeat (go_quiet (fail); try go_wp2)
                    go_meet
                    case rel => exact ⟨_, (decide (a1 ≤ (wrap64 (8 * ((rdOf ByteArray.empty y120 x24_1).size : Int))))), (by first | rfl | (simp; done) | (simp [*]; done)), H', ⟨by have := HK1.out; first | omega | exact Nat.le_refl _⟩, ⟨by (with_reducible repeat (first | apply Kd.R_alloc | apply Kd.R_drewN | apply Kd.R_drew)); exact Kd.R_mono (Kd.R_far (p := ⟨gb127, 1, none⟩) (Kd.R_far (p := ⟨gb127, 0, none⟩) (Kd.R_types HO_22.out BK127.out (by decide)) (fun _ hk => hk.2) (.string t124)) (fun _ hk => hk.2) (.int .i64 t125)) (fun _ hk => trivial)⟩, ⟨by (with_reducible repeat (first | refine blk_drewN ?_ _ | refine blk_drew ?_ | refine blk_alloc ?_ _)); refine blk_put (cs := #[.string t124, .int .i64 0]) ?_ 1 _ rfl; (with_reducible repeat (first | refine blk_drewN ?_ _ | refine blk_drew ?_ | refine blk_alloc ?_ _)); refine blk_put (cs := #[.string (⟨#[]⟩ : ByteArray), .int .i64 0]) ?_ 0 _ rfl; (with_reducible repeat (first | refine blk_drewN ?_ _ | refine blk_drew ?_ | refine blk_alloc ?_ _)); exact BK127.out⟩, ⟨by repeat (first | (with_reducible first | exact HB.out | apply below_alloc | apply pw_below_drewN | apply below_drew1 | refine below_set ?_ GE127.out) | exact HB.out)⟩⟩
                  · rw [if_neg c22] at H
                    have c22b0 : decide (0 ≤ a1) = false := decide_eq_false c22
                    clear c22
                    have H' := Aside0.mk H
                    clear H
                    go_wp2
                    repeat (go_quiet (fail); try go_wp2)
                    go_meet
                    case rel => exact ⟨_, (false), (by first | rfl | (simp; done) | (simp [*]; done)), H', ⟨by have := HK1.out; first | omega | exact Nat.le_refl _⟩, ⟨by (with_reducible repeat (first | apply Kd.R_alloc | apply Kd.R_drewN | apply Kd.R_drew)); exact Kd.R_mono (Kd.R_far (p := ⟨gb127, 1, none⟩) (Kd.R_far (p := ⟨gb127, 0, none⟩) (Kd.R_types HO_22.out BK127.out (by decide)) (fun _ hk => hk.2) (.string t124)) (fun _ hk => hk.2) (.int .i64 t125)) (fun _ hk => trivial)⟩, ⟨by (with_reducible repeat (first | refine blk_drewN ?_ _ | refine blk_drew ?_ | refine blk_alloc ?_ _)); refine blk_put (cs := #[.string t124, .int .i64 0]) ?_ 1 _ rfl; (with_reducible repeat (first | refine blk_drewN ?_ _ | refine blk_drew ?_ | refine blk_alloc ?_ _)); refine blk_put (cs := #[.string (⟨#[]⟩ : ByteArray), .int .i64 0]) ?_ 0 _ rfl; (with_reducible repeat (first | refine blk_drewN ?_ _ | refine blk_drew ?_ | refine blk_alloc ?_ _)); exact BK127.out⟩, ⟨by repeat (first | (with_reducible first | exact HB.out | apply below_alloc | apply pw_below_drewN | apply below_drew1 | refine below_set ?_ GE127.out) | exact HB.out)⟩⟩
                · rw [if_neg c21] at H
                  have c21b0 : (((rdOf ByteArray.empty y120 x24_1).size : Int) == 4) = false := beq_eq_false_iff_ne.mpr c21
                  have c21b1 : (((rdOf ByteArray.empty y120 x24_1).size : Int) != 4) = true := bne_iff_ne.mpr c21
                  (first | rw [c21b0] | (simp only [i64_w, i32_w]; rw [c21b0]) | skip)
                  by_cases c23 : ((rdOf ByteArray.empty y120 x24_1).size : Int) = 16
                  · rw [if_pos c23] at H
                    have c23b0 : (((rdOf ByteArray.empty y120 x24_1).size : Int) == 16) = true := beq_iff_eq.mpr c23
                    have c23b1 : (((rdOf ByteArray.empty y120 x24_1).size : Int) != 16) = false := bne_eq_false_iff_eq.mpr c23
                    clear c23
                    by_cases c24 : a1 ≥ 0
                    · rw [if_pos c24] at H
                      have c24b0 : decide (0 ≤ a1) = true := decide_eq_true c24
                      clear c24
                      have H' := Aside0.mk H
                      clear H
                      go_wp2
                      repeat (go_quiet (fail); try go_wp2)
                      go_meet
                      case rel => exact ⟨_, (decide (a1 ≤ (wrap64 (8 * ((rdOf ByteArray.empty y120 x24_1).size : Int))))), (by first | rfl | (simp; done) | (simp [*]; done)), H', ⟨by have := HK1.out; first | omega | exact Nat.le_refl _⟩, ⟨by (with_reducible repeat (first | apply Kd.R_alloc | apply Kd.R_drewN | apply Kd.R_drew)); exact Kd.R_mono (Kd.R_far (p := ⟨gb127, 1, none⟩) (Kd.R_far (p := ⟨gb127, 0, none⟩) (Kd.R_types HO_22.out BK127.out (by decide)) (fun _ hk => hk.2) (.string t124)) (fun _ hk => hk.2) (.int .i64 t125)) (fun _ hk => trivial)⟩, ⟨by (with_reducible repeat (first | refine blk_drewN ?_ _ | refine blk_drew ?_ | refine blk_alloc ?_ _)); refine blk_put (cs := #[.string t124, .int .i64 0]) ?_ 1 _ rfl; (with_reducible repeat (first | refine blk_drewN ?_ _ | refine blk_drew ?_ | refine blk_alloc ?_ _)); refine blk_put (cs := #[.string (⟨#[]⟩ : ByteArray), .int .i64 0]) ?_ 0 _ rfl; (with_reducible repeat (first | refine blk_drewN ?_ _ | refine blk_drew ?_ | refine blk_alloc ?_ _)); exact BK127.out⟩, ⟨by repeat (first | (with_reducible first | exact HB.out | apply below_alloc | apply pw_below_drewN | apply below_drew1 | refine below_set ?_ GE127.out) | exact HB.out)⟩⟩
                    · rw [if_neg c24] at H
                      have c24b0 : decide (0 ≤ a1) = false := decide_eq_false c24
                      clear c24
                      have H' := Aside0.mk H
                      clear H
                      go_wp2
                      repeat (go_quiet (fail); try go_wp2)
                      go_meet
                      case rel => exact ⟨_, (false), (by first | rfl | (simp; done) | (simp [*]; done)), H', ⟨by have := HK1.out; first | omega | exact Nat.le_refl _⟩, ⟨by (with_reducible repeat (first | apply Kd.R_alloc | apply Kd.R_drewN | apply Kd.R_drew)); exact Kd.R_mono (Kd.R_far (p := ⟨gb127, 1, none⟩) (Kd.R_far (p := ⟨gb127, 0, none⟩) (Kd.R_types HO_22.out BK127.out (by decide)) (fun _ hk => hk.2) (.string t124)) (fun _ hk => hk.2) (.int .i64 t125)) (fun _ hk => trivial)⟩, ⟨by (with_reducible repeat (first | refine blk_drewN ?_ _ | refine blk_drew ?_ | refine blk_alloc ?_ _)); refine blk_put (cs := #[.string t124, .int .i64 0]) ?_ 1 _ rfl; (with_reducible repeat (first | refine blk_drewN ?_ _ | refine blk_drew ?_ | refine blk_alloc ?_ _)); refine blk_put (cs := #[.string (⟨#[]⟩ : ByteArray), .int .i64 0]) ?_ 0 _ rfl; (with_reducible repeat (first | refine blk_drewN ?_ _ | refine blk_drew ?_ | refine blk_alloc ?_ _)); exact BK127.out⟩, ⟨by repeat (first | (with_reducible first | exact HB.out | apply below_alloc | apply pw_below_drewN | apply below_drew1 | refine below_set ?_ GE127.out) | exact HB.out)⟩⟩
                  · rw [if_neg c23] at H
                    have c23b0 : (((rdOf ByteArray.empty y120 x24_1).size : Int) == 16) = false := beq_eq_false_iff_ne.mpr c23
                    have c23b1 : (((rdOf ByteArray.empty y120 x24_1).size : Int) != 16) = true := bne_iff_ne.mpr c23
                    have H' := Aside0.mk H
                    clear H
                    go_wp2
                    repeat (go_quiet (fail); try go_wp2)
                    go_meet
                    case rel => exact ⟨_, (false), (by first | rfl | (simp; done) | (simp [*]; done)), H', ⟨by have := HK1.out; first | omega | exact Nat.le_refl _⟩, ⟨by (with_reducible repeat (first | apply Kd.R_alloc | apply Kd.R_drewN | apply Kd.R_drew)); exact Kd.R_mono (Kd.R_far (p := ⟨gb127, 1, none⟩) (Kd.R_far (p := ⟨gb127, 0, none⟩) (Kd.R_types HO_22.out BK127.out (by decide)) (fun _ hk => hk.2) (.string t124)) (fun _ hk => hk.2) (.int .i64 t125)) (fun _ hk => trivial)⟩, ⟨by (with_reducible repeat (first | refine blk_drewN ?_ _ | refine blk_drew ?_ | refine blk_alloc ?_ _)); refine blk_put (cs := #[.string t124, .int .i64 0]) ?_ 1 _ rfl; (with_reducible repeat (first | refine blk_drewN ?_ _ | refine blk_drew ?_ | refine blk_alloc ?_ _)); refine blk_put (cs := #[.string (⟨#[]⟩ : ByteArray), .int .i64 0]) ?_ 0 _ rfl; (with_reducible repeat (first | refine blk_drewN ?_ _ | refine blk_drew ?_ | refine blk_alloc ?_ _)); exact BK127.out⟩, ⟨by repeat (first | (with_reducible first | exact HB.out | apply below_alloc | apply pw_below_drewN | apply below_drew1 | refine below_set ?_ GE127.out) | exact HB.out)⟩⟩
              case rest =>
                clear HC17
                try clear c1
                try clear p1
                try clear q1
                try clear hx1
                try clear c2
                try clear p2
                try clear c3
                try clear c6
                try clear p6
                try clear c8
                try clear p12
                try clear q12
                try clear hx12
                try clear c13
                try clear c13b0
                try clear c14
                try clear c14b0
                try clear c15
                try clear c15b0
                try clear c21
                try clear c21b0
                try clear c21b1
                try clear c22
                try clear c22b0
                try clear c23
                try clear c23b0
                try clear c23b1
                try clear c24
                try clear c24b0
                try clear hcz20_0
                try clear hcz20_1
                try clear hfz20_0
                try clear hfz20_1
                try clear hx123_0
                try clear p123
                try clear p2
                try clear q123
                obtain ⟨kq, x13_16, rfl, HA, HJ16, HO_22, BK127, HB⟩ := hcut
                cases kq with
                | zero => exact absurd HA.out (by simp [bolterlaw12_PrefixCut.j1])
                | succ kj16 =>
                  have H := HA.out
                  clear HA
                  simp only [bolterlaw12_PrefixCut.j1] at H
                  have HC25 := Aside0.mk H
                  clear H
                  go_upto_region 8 with (fail)
                  repeat (go_quiet (fail); go_upto_region 8 with (fail))
                  go_cut [68] (fun v68 wc => ∃ (kq : Nat) (x68_24 : Bool), v68 = .bool x68_24 ∧ Aside0 (bolterlaw12_PrefixCut.j2 kq a1 (rdOf ByteArray.empty y120 x24_1) x13_16 y120 (y120.length : Int) x24_1 x68_24 t124 t125 = some r) ∧ Aside0 (kq ≤ kj16) ∧ Aside0 (Kd.R Kd.string 9 wc w.heap.size (fun _ => True) (.slice (some ad123) y120.length co12) y120) ∧ Aside0 (wc.heap[gb127]? = some (.cells #[.string t124, .int .i64 t125] 39 (0, 0))) ∧ Aside0 (Below w.heap.size w wc))
                  case first =>
                    have H := HC25.out
                    clear HC25
                    replace H := Option.bind_eq_some_iff.mp H
                    obtain ⟨t128, A260, H⟩ := H
                    replace H : (if ((rdOf ByteArray.empty y120 x24_1).size : Int) = 4 then (if (t128 != true) = true then (bolterlaw12_PrefixCut.j2 kj16 a1 (rdOf ByteArray.empty y120 x24_1) x13_16 y120 (y120.length : Int) x24_1 true t124 t125) else (bolterlaw12_PrefixCut.j2 kj16 a1 (rdOf ByteArray.empty y120 x24_1) x13_16 y120 (y120.length : Int) x24_1 (t126 != x13_16) t124 t125)) else (if (t128 != (((rdOf ByteArray.empty y120 x24_1).size : Int) == 16)) = true then (bolterlaw12_PrefixCut.j2 kj16 a1 (rdOf ByteArray.empty y120 x24_1) x13_16 y120 (y120.length : Int) x24_1 true t124 t125) else (bolterlaw12_PrefixCut.j2 kj16 a1 (rdOf ByteArray.empty y120 x24_1) x13_16 y120 (y120.length : Int) x24_1 (t126 != x13_16) t124 t125))) = some r := H
                    have A26 := Aside0.mk A260
                    clear A260
                    by_cases c27 : ((rdOf ByteArray.empty y120 x24_1).size : Int) = 4
                    · rw [if_pos c27] at H
                      have c27b0 : (((rdOf ByteArray.empty y120 x24_1).size : Int) == 4) = true := beq_iff_eq.mpr c27
                      have c27b1 : (((rdOf ByteArray.empty y120 x24_1).size : Int) != 4) = false := bne_eq_false_iff_eq.mpr c27
                      clear c27
                      (first | rw [c27b0] | (simp only [i64_w, i32_w]; rw [c27b0]) | skip)
                      by_cases c28 : (t128 != true) = true
                      · rw [if_pos c28] at H
                        have c28b0 : (t128 != true) = true := c28
                        (try (have c28b1 : decide (t128 = true) = false := by simpa using c28))
                        (try (have c28b2 : (t128 == true) = false := by simpa using c28))
                        (try (have c28b3 : ¬ (t128 = true) := by simpa using c28))
                        clear c28
                        have H' := Aside0.mk H
                        clear H
                        go_wp2_with (first | (go_at_call 22; (with_reducible refine (prefix_Address.calls (rdOf ByteArray.empty y120 x24_1) t128 _ A26.out).mono ?_); rintro e w' ⟨rfl, ⟨nd, rfl⟩⟩; (try first | exact ⟨rfl, _, World.drewN_drewN _ _ _⟩ | exact ⟨rfl, _, Eq.trans (World.drewN_drewN _ _ _) (congrArg (World.drewN _) (Nat.add_assoc _ _ _))⟩)))
                        repeat (go_quiet (first | (go_at_call 22; (with_reducible refine (prefix_Address.calls (rdOf ByteArray.empty y120 x24_1) t128 _ A26.out).mono ?_); rintro e w' ⟨rfl, ⟨nd, rfl⟩⟩; (try first | exact ⟨rfl, _, World.drewN_drewN _ _ _⟩ | exact ⟨rfl, _, Eq.trans (World.drewN_drewN _ _ _) (congrArg (World.drewN _) (Nat.add_assoc _ _ _))⟩))); try go_wp2_with (first | (go_at_call 22; (with_reducible refine (prefix_Address.calls (rdOf ByteArray.empty y120 x24_1) t128 _ A26.out).mono ?_); rintro e w' ⟨rfl, ⟨nd, rfl⟩⟩; (try first | exact ⟨rfl, _, World.drewN_drewN _ _ _⟩ | exact ⟨rfl, _, Eq.trans (World.drewN_drewN _ _ _) (congrArg (World.drewN _) (Nat.add_assoc _ _ _))⟩))))
                        go_meet
                        case rel => exact ⟨_, (true), (by first | rfl | (simp; done) | (simp [*]; done)), H', ⟨by have := HK1.out; have := HJ16.out; first | omega | exact Nat.le_refl _⟩, ⟨by (with_reducible repeat (first | apply Kd.R_alloc | apply Kd.R_drewN | apply Kd.R_drew)); exact HO_22.out⟩, ⟨by (with_reducible repeat (first | refine blk_drewN ?_ _ | refine blk_drew ?_ | refine blk_alloc ?_ _)); exact BK127.out⟩, ⟨by repeat (first | (with_reducible first | exact HB.out | apply below_alloc | apply pw_below_drewN | apply below_drew1 | refine below_set ?_ GE127.out) | exact HB.out)⟩⟩
                      · rw [if_neg c28] at H
                        have c28b0 : (t128 != true) = false := by simpa using c28
                        (try (have c28b1 : decide (t128 = true) = true := by simpa using c28))
                        (try (have c28b2 : (t128 == true) = true := by simpa using c28))
                        clear c28
                        have H' := Aside0.mk H
                        clear H
                        go_wp2_with (first | (go_at_call 22; (with_reducible refine (prefix_Address.calls (rdOf ByteArray.empty y120 x24_1) t128 _ A26.out).mono ?_); rintro e w' ⟨rfl, ⟨nd, rfl⟩⟩; (try first | exact ⟨rfl, _, World.drewN_drewN _ _ _⟩ | exact ⟨rfl, _, Eq.trans (World.drewN_drewN _ _ _) (congrArg (World.drewN _) (Nat.add_assoc _ _ _))⟩)))
                        repeat (go_quiet (first | (go_at_call 22; (with_reducible refine (prefix_Address.calls (rdOf ByteArray.empty y120 x24_1) t128 _ A26.out).mono ?_); rintro e w' ⟨rfl, ⟨nd, rfl⟩⟩; (try first | exact ⟨rfl, _, World.drewN_drewN _ _ _⟩ | exact ⟨rfl, _, Eq.trans (World.drewN_drewN _ _ _) (congrArg (World.drewN _) (Nat.add_assoc _ _ _))⟩))); try go_wp2_with (first | (go_at_call 22; (with_reducible refine (prefix_Address.calls (rdOf ByteArray.empty y120 x24_1) t128 _ A26.out).mono ?_); rintro e w' ⟨rfl, ⟨nd, rfl⟩⟩; (try first | exact ⟨rfl, _, World.drewN_drewN _ _ _⟩ | exact ⟨rfl, _, Eq.trans (World.drewN_drewN _ _ _) (congrArg (World.drewN _) (Nat.add_assoc _ _ _))⟩))))
                        go_meet
                        case rel => exact ⟨_, ((t126 != x13_16)), (by first | rfl | (simp; done) | (simp [*]; done)), H', ⟨by have := HK1.out; have := HJ16.out; first | omega | exact Nat.le_refl _⟩, ⟨by (with_reducible repeat (first | apply Kd.R_alloc | apply Kd.R_drewN | apply Kd.R_drew)); exact HO_22.out⟩, ⟨by (with_reducible repeat (first | refine blk_drewN ?_ _ | refine blk_drew ?_ | refine blk_alloc ?_ _)); exact BK127.out⟩, ⟨by repeat (first | (with_reducible first | exact HB.out | apply below_alloc | apply pw_below_drewN | apply below_drew1 | refine below_set ?_ GE127.out) | exact HB.out)⟩⟩
                    · rw [if_neg c27] at H
                      have c27b0 : (((rdOf ByteArray.empty y120 x24_1).size : Int) == 4) = false := beq_eq_false_iff_ne.mpr c27
                      have c27b1 : (((rdOf ByteArray.empty y120 x24_1).size : Int) != 4) = true := bne_iff_ne.mpr c27
                      (first | rw [c27b0] | (simp only [i64_w, i32_w]; rw [c27b0]) | skip)
                      by_cases c29 : (t128 != (((rdOf ByteArray.empty y120 x24_1).size : Int) == 16)) = true
                      · rw [if_pos c29] at H
                        have c29b0 : (t128 != (((rdOf ByteArray.empty y120 x24_1).size : Int) == 16)) = true := c29
                        (try (have c29b1 : decide (t128 = (((rdOf ByteArray.empty y120 x24_1).size : Int) == 16)) = false := by simpa using c29))
                        (try (have c29b2 : (t128 == (((rdOf ByteArray.empty y120 x24_1).size : Int) == 16)) = false := by simpa using c29))
                        (try (have c29b3 : ¬ (t128 = (((rdOf ByteArray.empty y120 x24_1).size : Int) == 16)) := by simpa using c29))
                        clear c29
                        have H' := Aside0.mk H
                        clear H
                        go_wp2_with (first | (go_at_call 22; (with_reducible refine (prefix_Address.calls (rdOf ByteArray.empty y120 x24_1) t128 _ A26.out).mono ?_); rintro e w' ⟨rfl, ⟨nd, rfl⟩⟩; (try first | exact ⟨rfl, _, World.drewN_drewN _ _ _⟩ | exact ⟨rfl, _, Eq.trans (World.drewN_drewN _ _ _) (congrArg (World.drewN _) (Nat.add_assoc _ _ _))⟩)))
                        repeat (go_quiet (first | (go_at_call 22; (with_reducible refine (prefix_Address.calls (rdOf ByteArray.empty y120 x24_1) t128 _ A26.out).mono ?_); rintro e w' ⟨rfl, ⟨nd, rfl⟩⟩; (try first | exact ⟨rfl, _, World.drewN_drewN _ _ _⟩ | exact ⟨rfl, _, Eq.trans (World.drewN_drewN _ _ _) (congrArg (World.drewN _) (Nat.add_assoc _ _ _))⟩))); try go_wp2_with (first | (go_at_call 22; (with_reducible refine (prefix_Address.calls (rdOf ByteArray.empty y120 x24_1) t128 _ A26.out).mono ?_); rintro e w' ⟨rfl, ⟨nd, rfl⟩⟩; (try first | exact ⟨rfl, _, World.drewN_drewN _ _ _⟩ | exact ⟨rfl, _, Eq.trans (World.drewN_drewN _ _ _) (congrArg (World.drewN _) (Nat.add_assoc _ _ _))⟩))))
                        go_meet
                        case rel => exact ⟨_, (true), (by first | rfl | (simp; done) | (simp [*]; done)), H', ⟨by have := HK1.out; have := HJ16.out; first | omega | exact Nat.le_refl _⟩, ⟨by (with_reducible repeat (first | apply Kd.R_alloc | apply Kd.R_drewN | apply Kd.R_drew)); exact HO_22.out⟩, ⟨by (with_reducible repeat (first | refine blk_drewN ?_ _ | refine blk_drew ?_ | refine blk_alloc ?_ _)); exact BK127.out⟩, ⟨by repeat (first | (with_reducible first | exact HB.out | apply below_alloc | apply pw_below_drewN | apply below_drew1 | refine below_set ?_ GE127.out) | exact HB.out)⟩⟩
                      · rw [if_neg c29] at H
                        have c29b0 : (t128 != (((rdOf ByteArray.empty y120 x24_1).size : Int) == 16)) = false := by simpa using c29
                        (try (have c29b1 : decide (t128 = (((rdOf ByteArray.empty y120 x24_1).size : Int) == 16)) = true := by simpa using c29))
                        (try (have c29b2 : (t128 == (((rdOf ByteArray.empty y120 x24_1).size : Int) == 16)) = true := by simpa using c29))
                        clear c29
                        have H' := Aside0.mk H
                        clear H
                        go_wp2_with (first | (go_at_call 22; (with_reducible refine (prefix_Address.calls (rdOf ByteArray.empty y120 x24_1) t128 _ A26.out).mono ?_); rintro e w' ⟨rfl, ⟨nd, rfl⟩⟩; (try first | exact ⟨rfl, _, World.drewN_drewN _ _ _⟩ | exact ⟨rfl, _, Eq.trans (World.drewN_drewN _ _ _) (congrArg (World.drewN _) (Nat.add_assoc _ _ _))⟩)))
                        repeat (go_quiet (first | (go_at_call 22; (with_reducible refine (prefix_Address.calls (rdOf ByteArray.empty y120 x24_1) t128 _ A26.out).mono ?_); rintro e w' ⟨rfl, ⟨nd, rfl⟩⟩; (try first | exact ⟨rfl, _, World.drewN_drewN _ _ _⟩ | exact ⟨rfl, _, Eq.trans (World.drewN_drewN _ _ _) (congrArg (World.drewN _) (Nat.add_assoc _ _ _))⟩))); try go_wp2_with (first | (go_at_call 22; (with_reducible refine (prefix_Address.calls (rdOf ByteArray.empty y120 x24_1) t128 _ A26.out).mono ?_); rintro e w' ⟨rfl, ⟨nd, rfl⟩⟩; (try first | exact ⟨rfl, _, World.drewN_drewN _ _ _⟩ | exact ⟨rfl, _, Eq.trans (World.drewN_drewN _ _ _) (congrArg (World.drewN _) (Nat.add_assoc _ _ _))⟩))))
                        go_meet
                        case rel => exact ⟨_, ((t126 != x13_16)), (by first | rfl | (simp; done) | (simp [*]; done)), H', ⟨by have := HK1.out; have := HJ16.out; first | omega | exact Nat.le_refl _⟩, ⟨by (with_reducible repeat (first | apply Kd.R_alloc | apply Kd.R_drewN | apply Kd.R_drew)); exact HO_22.out⟩, ⟨by (with_reducible repeat (first | refine blk_drewN ?_ _ | refine blk_drew ?_ | refine blk_alloc ?_ _)); exact BK127.out⟩, ⟨by repeat (first | (with_reducible first | exact HB.out | apply below_alloc | apply pw_below_drewN | apply below_drew1 | refine below_set ?_ GE127.out) | exact HB.out)⟩⟩
                  case rest =>
                    clear HC25
                    try clear c1
                    try clear p1
                    try clear q1
                    try clear hx1
                    try clear c2
                    try clear p2
                    try clear c3
                    try clear c6
                    try clear p6
                    try clear c8
                    try clear p12
                    try clear q12
                    try clear hx12
                    try clear c13
                    try clear c13b0
                    try clear c14
                    try clear c14b0
                    try clear c15
                    try clear c15b0
                    try clear c21
                    try clear c21b0
                    try clear c21b1
                    try clear c22
                    try clear c22b0
                    try clear c23
                    try clear c23b0
                    try clear c23b1
                    try clear c24
                    try clear c24b0
                    try clear c27
                    try clear c27b0
                    try clear c27b1
                    try clear c28
                    try clear c28b0
                    try clear c28b1
                    try clear c28b2
                    try clear c29
                    try clear c29b0
                    try clear c29b1
                    try clear c29b2
                    try clear hcz20_0
                    try clear hcz20_1
                    try clear hfz20_0
                    try clear hfz20_1
                    try clear hx123_0
                    try clear p1
                    try clear p12
                    try clear p123
                    try clear p2
                    try clear p6
                    try clear q1
                    try clear q12
                    try clear q123
                    obtain ⟨kq, x68_24, rfl, HA, HJ24, HO_22, BK127, HB⟩ := hcut
                    cases kq with
                    | zero => exact absurd HA.out (by simp [bolterlaw12_PrefixCut.j2])
                    | succ kj24 =>
                      have H := HA.out
                      clear HA
                      simp only [bolterlaw12_PrefixCut.j2] at H
                      by_cases c30 : x68_24 = true
                      · subst c30
                        have H1 : (some false) = some r := by rw [if_pos rfl] at H; exact H
                        clear H
                        have H := H1
                        clear H1
                        obtain rfl := Option.some.inj H
                        go_wp2
                        repeat (go_quiet (fail); try go_wp2)
                        go_ret
                        exact ⟨by first | rfl | (simp [errW_none, errW_some] <;> rfl) | (simp [*, errW_none, errW_some] <;> rfl), by repeat (first | (with_reducible first | exact HB.out | apply below_alloc | apply pw_below_drewN | apply below_drew1 | refine below_set ?_ GE127.out) | exact HB.out)⟩
                      · replace c30 := Bool.eq_false_iff.mpr c30
                        subst c30
                        have H1 : (if x13_16 = true then ((bolterlaw12_bits.f kj24 t124).bind fun t129 => (if t125 = a1 then (if (t124.size : Int) = ((rdOf ByteArray.empty y120 x24_1).size : Int) then (if 0 ≤ a1 then (if a1 ≤ (t129.size : Int) then ((bolterlaw12_bits.f kj24 (rdOf ByteArray.empty y120 x24_1)).bind fun t130 => (if a1 ≤ (t130.size : Int) then (bolterlaw12_PrefixCut.j3 kj24 a1 t129 y120 (y120.length : Int) x24_1 ((t129.extract 0 (a1 : Int).toNat).toList != (t130.extract 0 (a1 : Int).toNat).toList)) else (none))) else (none)) else (none)) else (bolterlaw12_PrefixCut.j3 kj24 a1 t129 y120 (y120.length : Int) x24_1 true)) else (bolterlaw12_PrefixCut.j3 kj24 a1 t129 y120 (y120.length : Int) x24_1 true))) else (if (!(t124.toList == ([] : List UInt8)) || (!(t125 == 0))) = true then (some false) else (bolterlaw12_PrefixCut.l0 kj24 a1 y120 (y120.length : Int) (wrap64 (x24_1 + 1))))) = some r := by rw [if_neg (show ¬ (false = true) by decide)] at H; exact H
                        clear H
                        have H := H1
                        clear H1
                        by_cases c31 : x13_16 = true
                        · subst c31
                          have H1 : ((bolterlaw12_bits.f kj24 t124).bind fun t129 => (if t125 = a1 then (if (t124.size : Int) = ((rdOf ByteArray.empty y120 x24_1).size : Int) then (if 0 ≤ a1 then (if a1 ≤ (t129.size : Int) then ((bolterlaw12_bits.f kj24 (rdOf ByteArray.empty y120 x24_1)).bind fun t130 => (if a1 ≤ (t130.size : Int) then (bolterlaw12_PrefixCut.j3 kj24 a1 t129 y120 (y120.length : Int) x24_1 ((t129.extract 0 (a1 : Int).toNat).toList != (t130.extract 0 (a1 : Int).toNat).toList)) else (none))) else (none)) else (none)) else (bolterlaw12_PrefixCut.j3 kj24 a1 t129 y120 (y120.length : Int) x24_1 true)) else (bolterlaw12_PrefixCut.j3 kj24 a1 t129 y120 (y120.length : Int) x24_1 true))) = some r := by rw [if_pos rfl] at H; exact H
                          clear H
                          have H := H1
                          clear H1
                          replace H := Option.bind_eq_some_iff.mp H
                          obtain ⟨t129, A320, H⟩ := H
                          replace H : (if t125 = a1 then (if (t124.size : Int) = ((rdOf ByteArray.empty y120 x24_1).size : Int) then (if 0 ≤ a1 then (if a1 ≤ (t129.size : Int) then ((bolterlaw12_bits.f kj24 (rdOf ByteArray.empty y120 x24_1)).bind fun t130 => (if a1 ≤ (t130.size : Int) then (bolterlaw12_PrefixCut.j3 kj24 a1 t129 y120 (y120.length : Int) x24_1 ((t129.extract 0 (a1 : Int).toNat).toList != (t130.extract 0 (a1 : Int).toNat).toList)) else (none))) else (none)) else (none)) else (bolterlaw12_PrefixCut.j3 kj24 a1 t129 y120 (y120.length : Int) x24_1 true)) else (bolterlaw12_PrefixCut.j3 kj24 a1 t129 y120 (y120.length : Int) x24_1 true)) = some r := H
                          have A32 := Aside0.mk A320
                          clear A320
                          have HC33 := Aside0.mk H
                          clear H
                          have hcz34_0 : wc.cell? ⟨gb127, 0, none⟩ = some (.string t124) := (blk_cell BK127.out 0).trans rfl
                          have hcz34_1 : wc.cell? ⟨gb127, 1, none⟩ = some (.int .i64 t125) := (blk_cell BK127.out 1).trans rfl
                          have hfz34_0 := blk_frozen BK127.out 0
                          have hfz34_1 := blk_frozen BK127.out 1
                          go_upto_region 14 with (first | (go_at_call 23; (with_reducible refine (bolterlaw12_bits.calls kj24 t124 t129 _ A32.out).mono ?_); rintro e w' ⟨rfl, ⟨nd, rfl⟩⟩; (try first | exact ⟨rfl, _, World.drewN_drewN _ _ _⟩ | exact ⟨rfl, _, Eq.trans (World.drewN_drewN _ _ _) (congrArg (World.drewN _) (Nat.add_assoc _ _ _))⟩)))
                          repeat (go_quiet (first | (go_at_call 23; (with_reducible refine (bolterlaw12_bits.calls kj24 t124 t129 _ A32.out).mono ?_); rintro e w' ⟨rfl, ⟨nd, rfl⟩⟩; (try first | exact ⟨rfl, _, World.drewN_drewN _ _ _⟩ | exact ⟨rfl, _, Eq.trans (World.drewN_drewN _ _ _) (congrArg (World.drewN _) (Nat.add_assoc _ _ _))⟩))); go_upto_region 14 with (first | (go_at_call 23; (with_reducible refine (bolterlaw12_bits.calls kj24 t124 t129 _ A32.out).mono ?_); rintro e w' ⟨rfl, ⟨nd, rfl⟩⟩; (try first | exact ⟨rfl, _, World.drewN_drewN _ _ _⟩ | exact ⟨rfl, _, Eq.trans (World.drewN_drewN _ _ _) (congrArg (World.drewN _) (Nat.add_assoc _ _ _))⟩))))
                          (try simp only [Act.put, List.setIfInBounds_toArray, List.set_cons_zero, List.set_cons_succ])
                          go_cut [98] (fun v98 wc => ∃ (kq : Nat) (x98_32 : Bool), v98 = .bool x98_32 ∧ Aside0 (bolterlaw12_PrefixCut.j3 kq a1 t129 y120 (y120.length : Int) x24_1 x98_32 = some r) ∧ Aside0 (kq ≤ kj24) ∧ Aside0 (Kd.R Kd.string 9 wc w.heap.size (fun _ => True) (.slice (some ad123) y120.length co12) y120) ∧ Aside0 (wc.heap[gb127]? = some (.cells #[.string t124, .int .i64 t125] 39 (0, 0))) ∧ Aside0 (Below w.heap.size w wc))
                          case first =>
                            have H := HC33.out
                            clear HC33
                            by_cases c35 : t125 = a1
                            · rw [if_pos c35] at H
                              have c35b0 : (t125 == a1) = true := beq_iff_eq.mpr c35
                              have c35b1 : (t125 != a1) = false := bne_eq_false_iff_eq.mpr c35
                              clear c35
                              (first | rw [c35b0] | (simp only [i64_w, i32_w]; rw [c35b0]) | skip)
                              by_cases c36 : (t124.size : Int) = ((rdOf ByteArray.empty y120 x24_1).size : Int)
                              · rw [if_pos c36] at H
                                have c36b0 : ((t124.size : Int) == ((rdOf ByteArray.empty y120 x24_1).size : Int)) = true := beq_iff_eq.mpr c36
                                have c36b1 : ((t124.size : Int) != ((rdOf ByteArray.empty y120 x24_1).size : Int)) = false := bne_eq_false_iff_eq.mpr c36
                                have c36b2 : (t124.size == (rdOf ByteArray.empty y120 x24_1).size) = true := by first | simpa using c36 | (simp at c36 ⊢; omega)
                                clear c36
                                by_cases c37 : 0 ≤ a1
                                · rw [if_pos c37] at H
                                  have c37b0 := eq_true c37
                                  have c37b1 : decide (0 ≤ a1) = true := decide_eq_true c37
                                  clear c37
                                  by_cases c38 : a1 ≤ (t129.size : Int)
                                  · rw [if_pos c38] at H
                                    have c38b0 := eq_true c38
                                    have c38b1 : decide (a1 ≤ (t129.size : Int)) = true := decide_eq_true c38
                                    clear c38
                                    replace H := Option.bind_eq_some_iff.mp H
                                    obtain ⟨t130, A390, H⟩ := H
                                    replace H : (if a1 ≤ (t130.size : Int) then (bolterlaw12_PrefixCut.j3 kj24 a1 t129 y120 (y120.length : Int) x24_1 ((t129.extract 0 (a1 : Int).toNat).toList != (t130.extract 0 (a1 : Int).toNat).toList)) else (none)) = some r := H
                                    have A39 := Aside0.mk A390
                                    clear A390
                                    have c40b0 := eq_true (of_decide_eq_true (by first | (with_reducible assumption) | assumption) : 0 ≤ a1)
                                    by_cases c41 : a1 ≤ (t130.size : Int)
                                    · rw [if_pos c41] at H
                                      have c41b0 := eq_true c41
                                      have c41b1 : decide (a1 ≤ (t130.size : Int)) = true := decide_eq_true c41
                                      clear c41
                                      have H' := Aside0.mk H
                                      clear H
                                      have hcz42_0 : wc.cell? ⟨gb127, 0, none⟩ = some (.string t124) := (blk_cell BK127.out 0).trans rfl
                                      have hcz42_1 : wc.cell? ⟨gb127, 1, none⟩ = some (.int .i64 t125) := (blk_cell BK127.out 1).trans rfl
                                      have hfz42_0 := blk_frozen BK127.out 0
                                      have hfz42_1 := blk_frozen BK127.out 1
                                      go_wp2_with (first | (go_at_call 23; (with_reducible refine (bolterlaw12_bits.calls kj24 (rdOf ByteArray.empty y120 x24_1) t130 _ A39.out).mono ?_); rintro e w' ⟨rfl, ⟨nd, rfl⟩⟩; (try first | exact ⟨rfl, _, World.drewN_drewN _ _ _⟩ | exact ⟨rfl, _, Eq.trans (World.drewN_drewN _ _ _) (congrArg (World.drewN _) (Nat.add_assoc _ _ _))⟩)))
                                      repeat (go_quiet (first | (go_at_call 23; (with_reducible refine (bolterlaw12_bits.calls kj24 (rdOf ByteArray.empty y120 x24_1) t130 _ A39.out).mono ?_); rintro e w' ⟨rfl, ⟨nd, rfl⟩⟩; (try first | exact ⟨rfl, _, World.drewN_drewN _ _ _⟩ | exact ⟨rfl, _, Eq.trans (World.drewN_drewN _ _ _) (congrArg (World.drewN _) (Nat.add_assoc _ _ _))⟩))); try go_wp2_with (first | (go_at_call 23; (with_reducible refine (bolterlaw12_bits.calls kj24 (rdOf ByteArray.empty y120 x24_1) t130 _ A39.out).mono ?_); rintro e w' ⟨rfl, ⟨nd, rfl⟩⟩; (try first | exact ⟨rfl, _, World.drewN_drewN _ _ _⟩ | exact ⟨rfl, _, Eq.trans (World.drewN_drewN _ _ _) (congrArg (World.drewN _) (Nat.add_assoc _ _ _))⟩))))
                                      go_meet
                                      case rel => exact ⟨_, (((t129.extract 0 (a1 : Int).toNat).toList != (t130.extract 0 (a1 : Int).toNat).toList)), (by first | rfl | (simp; done) | (simp [*]; done)), H', ⟨by have := HK1.out; have := HJ16.out; have := HJ24.out; first | omega | exact Nat.le_refl _⟩, ⟨by (with_reducible repeat (first | apply Kd.R_alloc | apply Kd.R_drewN | apply Kd.R_drew)); exact HO_22.out⟩, ⟨by (with_reducible repeat (first | refine blk_drewN ?_ _ | refine blk_drew ?_ | refine blk_alloc ?_ _)); exact BK127.out⟩, ⟨by repeat (first | (with_reducible first | exact HB.out | apply below_alloc | apply pw_below_drewN | apply below_drew1 | refine below_set ?_ GE127.out) | exact HB.out)⟩⟩
                                    · rw [if_neg c41] at H
                                      exact absurd H (by simp)
                                  · rw [if_neg c38] at H
                                    exact absurd H (by simp)
                                · rw [if_neg c37] at H
                                  exact absurd H (by simp)
                              · rw [if_neg c36] at H
                                have c36b0 : ((t124.size : Int) == ((rdOf ByteArray.empty y120 x24_1).size : Int)) = false := beq_eq_false_iff_ne.mpr c36
                                have c36b1 : ((t124.size : Int) != ((rdOf ByteArray.empty y120 x24_1).size : Int)) = true := bne_iff_ne.mpr c36
                                have c36b2 : (t124.size == (rdOf ByteArray.empty y120 x24_1).size) = false := by first | simpa using c36 | (simp at c36 ⊢; omega)
                                have H' := Aside0.mk H
                                clear H
                                have hcz43_0 : wc.cell? ⟨gb127, 0, none⟩ = some (.string t124) := (blk_cell BK127.out 0).trans rfl
                                have hcz43_1 : wc.cell? ⟨gb127, 1, none⟩ = some (.int .i64 t125) := (blk_cell BK127.out 1).trans rfl
                                have hfz43_0 := blk_frozen BK127.out 0
                                have hfz43_1 := blk_frozen BK127.out 1
                                go_wp2
                                repeat (go_quiet (fail); try go_wp2)
                                go_meet
                                case rel => exact ⟨_, (true), (by first | rfl | (simp; done) | (simp [*]; done)), H', ⟨by have := HK1.out; have := HJ16.out; have := HJ24.out; first | omega | exact Nat.le_refl _⟩, ⟨by (with_reducible repeat (first | apply Kd.R_alloc | apply Kd.R_drewN | apply Kd.R_drew)); exact HO_22.out⟩, ⟨by (with_reducible repeat (first | refine blk_drewN ?_ _ | refine blk_drew ?_ | refine blk_alloc ?_ _)); exact BK127.out⟩, ⟨by repeat (first | (with_reducible first | exact HB.out | apply below_alloc | apply pw_below_drewN | apply below_drew1 | refine below_set ?_ GE127.out) | exact HB.out)⟩⟩
                            · rw [if_neg c35] at H
                              have c35b0 : (t125 == a1) = false := beq_eq_false_iff_ne.mpr c35
                              have c35b1 : (t125 != a1) = true := bne_iff_ne.mpr c35
                              (first | rw [c35b0] | (simp only [i64_w, i32_w]; rw [c35b0]) | skip)
                              have H' := Aside0.mk H
                              clear H
                              have hcz44_0 : wc.cell? ⟨gb127, 0, none⟩ = some (.string t124) := (blk_cell BK127.out 0).trans rfl
                              have hcz44_1 : wc.cell? ⟨gb127, 1, none⟩ = some (.int .i64 t125) := (blk_cell BK127.out 1).trans rfl
                              have hfz44_0 := blk_frozen BK127.out 0
                              have hfz44_1 := blk_frozen BK127.out 1
                              go_wp2
                              repeat (go_quiet (fail); try go_wp2)
                              go_meet
                              case rel => exact ⟨_, (true), (by first | rfl | (simp; done) | (simp [*]; done)), H', ⟨by have := HK1.out; have := HJ16.out; have := HJ24.out; first | omega | exact Nat.le_refl _⟩, ⟨by (with_reducible repeat (first | apply Kd.R_alloc | apply Kd.R_drewN | apply Kd.R_drew)); exact HO_22.out⟩, ⟨by (with_reducible repeat (first | refine blk_drewN ?_ _ | refine blk_drew ?_ | refine blk_alloc ?_ _)); exact BK127.out⟩, ⟨by repeat (first | (with_reducible first | exact HB.out | apply below_alloc | apply pw_below_drewN | apply below_drew1 | refine below_set ?_ GE127.out) | exact HB.out)⟩⟩
                          case rest =>
                            clear HC33
                            try clear c1
                            try clear p1
                            try clear q1
                            try clear hx1
                            try clear c2
                            try clear p2
                            try clear c3
                            try clear c4
                            try clear c6
                            try clear p6
                            try clear c8
                            try clear p12
                            try clear q12
                            try clear hx12
                            try clear c13
                            try clear c13b0
                            try clear c14
                            try clear c14b0
                            try clear c15
                            try clear c15b0
                            try clear c21
                            try clear c21b0
                            try clear c21b1
                            try clear c22
                            try clear c22b0
                            try clear c23
                            try clear c23b0
                            try clear c23b1
                            try clear c24
                            try clear c24b0
                            try clear c27
                            try clear c27b0
                            try clear c27b1
                            try clear c28
                            try clear c28b0
                            try clear c28b1
                            try clear c28b2
                            try clear c29
                            try clear c29b0
                            try clear c29b1
                            try clear c29b2
                            try clear c30
                            try clear c31
                            try clear c35
                            try clear c35b0
                            try clear c35b1
                            try clear c36
                            try clear c36b0
                            try clear c36b1
                            try clear c36b2
                            try clear c37
                            try clear c37b0
                            try clear c37b1
                            try clear c38
                            try clear c38b0
                            try clear c38b1
                            try clear c40
                            try clear c40b0
                            try clear c41
                            try clear c41b0
                            try clear c41b1
                            try clear hcz20_0
                            try clear hcz20_1
                            try clear hcz34_0
                            try clear hcz34_1
                            try clear hcz42_0
                            try clear hcz42_1
                            try clear hcz43_0
                            try clear hcz43_1
                            try clear hcz44_0
                            try clear hcz44_1
                            try clear hfz20_0
                            try clear hfz20_1
                            try clear hfz34_0
                            try clear hfz34_1
                            try clear hfz42_0
                            try clear hfz42_1
                            try clear hfz43_0
                            try clear hfz43_1
                            try clear hfz44_0
                            try clear hfz44_1
                            try clear hx123_0
                            try clear p1
                            try clear p12
                            try clear p123
                            try clear p2
                            try clear p6
                            try clear q1
                            try clear q12
                            try clear q123
                            obtain ⟨kq, x98_32, rfl, HA, HJ32, HO_22, BK127, HB⟩ := hcut
                            cases kq with
                            | zero => exact absurd HA.out (by simp [bolterlaw12_PrefixCut.j3])
                            | succ kj32 =>
                              have H := HA.out
                              clear HA
                              simp only [bolterlaw12_PrefixCut.j3] at H
                              by_cases c45 : x98_32 = true
                              · subst c45
                                have H1 : (some false) = some r := by rw [if_pos rfl] at H; exact H
                                clear H
                                have H := H1
                                clear H1
                                obtain rfl := Option.some.inj H
                                go_wp2
                                repeat (go_quiet (fail); try go_wp2)
                                go_ret
                                exact ⟨by first | rfl | (simp [errW_none, errW_some] <;> rfl) | (simp [*, errW_none, errW_some] <;> rfl), by repeat (first | (with_reducible first | exact HB.out | apply below_alloc | apply pw_below_drewN | apply below_drew1 | refine below_set ?_ GE127.out) | exact HB.out)⟩
                              · replace c45 := Bool.eq_false_iff.mpr c45
                                subst c45
                                have H1 : (bolterlaw12_PrefixCut.l1 kj32 a1 t129 a1 y120 (y120.length : Int) x24_1) = some r := by rw [if_neg (show ¬ (false = true) by decide)] at H; exact H
                                clear H
                                have H := H1
                                clear H1
                                have H' := Aside0.mk H
                                clear H
                                go_wp2
                                repeat (go_quiet (fail); try go_wp2)
                                go_loopg [15] kj32 (fun kq v15 w' => ∃ (x15_5 : Int), v15 = .int .i64 x15_5 ∧ Aside0 (bolterlaw12_PrefixCut.l1 kq a1 t129 x15_5 y120 (y120.length : Int) x24_1 = some r) ∧ Aside0 (kq ≤ kj32) ∧ Aside0 (Kd.R Kd.string 9 w' w.heap.size (fun _ => True) (.slice (some ad123) y120.length co12) y120) ∧ Aside0 (w'.heap[gb127]? = some (.cells #[.string t124, .int .i64 t125] 39 (0, 0))) ∧ Aside0 (Below w.heap.size w w'))
                                case atStart => exact ⟨(a1), (by first | rfl | (simp; done) | (simp [*]; done)), H', ⟨Nat.le_refl _⟩, ⟨by (with_reducible repeat (first | apply Kd.R_alloc | apply Kd.R_drewN | apply Kd.R_drew)); exact HO_22.out⟩, ⟨by (with_reducible repeat (first | refine blk_drewN ?_ _ | refine blk_drew ?_ | refine blk_alloc ?_ _)); exact BK127.out⟩, ⟨by repeat (first | (with_reducible first | exact HB.out | apply below_alloc | apply pw_below_drewN | apply below_drew1 | refine below_set ?_ GE127.out) | exact HB.out)⟩⟩
                                case round =>
                                  clear H'
                                  try clear c1
                                  try clear p1
                                  try clear q1
                                  try clear hx1
                                  try clear c2
                                  try clear p2
                                  try clear c3
                                  try clear c4
                                  try clear c6
                                  try clear p6
                                  try clear c8
                                  try clear p12
                                  try clear q12
                                  try clear hx12
                                  try clear c13
                                  try clear c13b0
                                  try clear c14
                                  try clear c14b0
                                  try clear c15
                                  try clear c15b0
                                  try clear c21
                                  try clear c21b0
                                  try clear c21b1
                                  try clear c22
                                  try clear c22b0
                                  try clear c23
                                  try clear c23b0
                                  try clear c23b1
                                  try clear c24
                                  try clear c24b0
                                  try clear c27
                                  try clear c27b0
                                  try clear c27b1
                                  try clear c28
                                  try clear c28b0
                                  try clear c28b1
                                  try clear c28b2
                                  try clear c29
                                  try clear c29b0
                                  try clear c29b1
                                  try clear c29b2
                                  try clear c30
                                  try clear c31
                                  try clear c35
                                  try clear c35b0
                                  try clear c35b1
                                  try clear c36
                                  try clear c36b0
                                  try clear c36b1
                                  try clear c36b2
                                  try clear c37
                                  try clear c37b0
                                  try clear c37b1
                                  try clear c38
                                  try clear c38b0
                                  try clear c38b1
                                  try clear c40
                                  try clear c40b0
                                  try clear c41
                                  try clear c41b0
                                  try clear c41b1
                                  try clear c45
                                  try clear hcz20_0
                                  try clear hcz20_1
                                  try clear hcz34_0
                                  try clear hcz34_1
                                  try clear hcz42_0
                                  try clear hcz42_1
                                  try clear hcz43_0
                                  try clear hcz43_1
                                  try clear hcz44_0
                                  try clear hcz44_1
                                  try clear hfz20_0
                                  try clear hfz20_1
                                  try clear hfz34_0
                                  try clear hfz34_1
                                  try clear hfz42_0
                                  try clear hfz42_1
                                  try clear hfz43_0
                                  try clear hfz43_1
                                  try clear hfz44_0
                                  try clear hfz44_1
                                  try clear hx123_0
                                  try clear p1
                                  try clear p12
                                  try clear p123
                                  try clear p2
                                  try clear p6
                                  try clear q1
                                  try clear q12
                                  try clear q123
                                  obtain ⟨x15_5, rfl, HA, HK5, HO_22, BK127, HB⟩ := hrel
                                  cases gk with
                                  | zero => exact absurd HA.out (by simp [bolterlaw12_PrefixCut.l1])
                                  | succ k5 =>
                                    have H := HA.out
                                    clear HA
                                    simp only [bolterlaw12_PrefixCut.l1] at H
                                    by_cases c46 : x15_5 < (t129.size : Int)
                                    · rw [if_pos c46] at H
                                      have c46b0 : decide (x15_5 < (t129.size : Int)) = true := decide_eq_true c46
                                      clear c46
                                      by_cases c47 : 0 ≤ x15_5
                                      · rw [if_pos c47] at H
                                        have c47b0 : decide (0 ≤ x15_5) = true := decide_eq_true c47
                                        clear c47
                                        by_cases c49 : (bt t129 x15_5) = 48
                                        · rw [if_pos c49] at H
                                          have c49b0 : ((bt t129 x15_5) == 48) = true := beq_iff_eq.mpr c49
                                          have c49b1 : ((bt t129 x15_5) != 48) = false := bne_eq_false_iff_eq.mpr c49
                                          clear c49
                                          have H' := Aside0.mk H
                                          clear H
                                          have p48 : 0 ≤ (x15_5 : Int) := of_decide_eq_true (by first | (with_reducible assumption) | assumption)
                                          have q48 : x15_5 < (t129.size : Int) := of_decide_eq_true (by first | (with_reducible assumption) | assumption)
                                          have hx48 := bt_at t129 x15_5
                                          replace p48 := eq_true p48
                                          replace q48 := eq_true q48
                                          go_wp2
                                          repeat (go_quiet (fail); try go_wp2)
                                          go_roundg k5
                                          case measure => have := HK1.out; have := HJ16.out; have := HJ24.out; have := HJ32.out; have := HK5.out; omega
                                          case rel => exact ⟨(wrap64 (x15_5 + 1)), (by first | rfl | (simp; done) | (simp [*]; done)), H', ⟨by have := HK1.out; have := HJ16.out; have := HJ24.out; have := HJ32.out; have := HK5.out; omega⟩, ⟨by (with_reducible repeat (first | apply Kd.R_alloc | apply Kd.R_drewN | apply Kd.R_drew)); exact HO_22.out⟩, ⟨by (with_reducible repeat (first | refine blk_drewN ?_ _ | refine blk_drew ?_ | refine blk_alloc ?_ _)); exact BK127.out⟩, ⟨by repeat (first | (with_reducible first | exact HB.out | apply below_alloc | apply pw_below_drewN | apply below_drew1 | refine below_set ?_ GE127.out) | exact HB.out)⟩⟩
                                        · rw [if_neg c49] at H
                                          have c49b0 : ((bt t129 x15_5) == 48) = false := beq_eq_false_iff_ne.mpr c49
                                          have c49b1 : ((bt t129 x15_5) != 48) = true := bne_iff_ne.mpr c49
                                          obtain rfl := Option.some.inj H
                                          have p48 : 0 ≤ (x15_5 : Int) := of_decide_eq_true (by first | (with_reducible assumption) | assumption)
                                          have q48 : x15_5 < (t129.size : Int) := of_decide_eq_true (by first | (with_reducible assumption) | assumption)
                                          have hx48 := bt_at t129 x15_5
                                          replace p48 := eq_true p48
                                          replace q48 := eq_true q48
                                          go_wp2
                                          repeat (go_quiet (fail); try go_wp2)
                                          go_ret
                                          exact ⟨by first | rfl | (simp [errW_none, errW_some] <;> rfl) | (simp [*, errW_none, errW_some] <;> rfl), by repeat (first | (with_reducible first | exact HB.out | apply below_alloc | apply pw_below_drewN | apply below_drew1 | refine below_set ?_ GE127.out) | exact HB.out)⟩
                                      · rw [if_neg c47] at H
                                        exact absurd H (by simp)
                                    · rw [if_neg c46] at H
                                      have c46b0 : decide (x15_5 < (t129.size : Int)) = false := decide_eq_false c46
                                      clear c46
                                      have H' := Aside0.mk H
                                      clear H
                                      go_wp2
                                      repeat (go_quiet (fail); try go_wp2)
                                      go_roundg k5
                                      case measure => have := HK1.out; have := HJ16.out; have := HJ24.out; have := HJ32.out; have := HK5.out; omega
                                      case rel => exact ⟨(wrap64 (x24_1 + 1)), (by first | rfl | (simp; done) | (simp [*]; done)), H', ⟨by have := HK1.out; have := HJ16.out; have := HJ24.out; have := HJ32.out; have := HK5.out; omega⟩, ⟨by (with_reducible repeat (first | apply Kd.R_alloc | apply Kd.R_drewN | apply Kd.R_drew)); exact HO_22.out⟩, ⟨by repeat (first | (with_reducible first | exact HB.out | apply below_alloc | apply pw_below_drewN | apply below_drew1 | refine below_set ?_ GE127.out) | exact HB.out)⟩⟩
                        · replace c31 := Bool.eq_false_iff.mpr c31
                          subst c31
                          have H1 : (if (!(t124.toList == ([] : List UInt8)) || (!(t125 == 0))) = true then (some false) else (bolterlaw12_PrefixCut.l0 kj24 a1 y120 (y120.length : Int) (wrap64 (x24_1 + 1)))) = some r := by rw [if_neg (show ¬ (false = true) by decide)] at H; exact H
                          clear H
                          have H := H1
                          clear H1
                          by_cases c50 : (!(t124.toList == ([] : List UInt8)) || (!(t125 == 0))) = true
                          · rw [if_pos c50] at H
                            have c50b0 : (!(t124.toList == ([] : List UInt8)) || (!(t125 == 0))) = true := c50
                            have c50s : t124.toList.isEmpty = false ∨ (t124.toList.isEmpty = true ∧ (t125 == 0) = false) := by
                              clear H c50
                              revert c50b0
                              cases t124.toList <;> cases (t125 == 0) <;> simp
                            clear c50b0
                            clear c50
                            obtain rfl := Option.some.inj H
                            rcases c50s with c50x | ⟨c50x, c50y⟩
                            all_goals
                              have hcz51_0 : wc.cell? ⟨gb127, 0, none⟩ = some (.string t124) := (blk_cell BK127.out 0).trans rfl
                              have hcz51_1 : wc.cell? ⟨gb127, 1, none⟩ = some (.int .i64 t125) := (blk_cell BK127.out 1).trans rfl
                              have hfz51_0 := blk_frozen BK127.out 0
                              have hfz51_1 := blk_frozen BK127.out 1
                              go_wp2
                              repeat (go_quiet (fail); try go_wp2)
                              go_ret
                              exact ⟨by first | rfl | (simp [errW_none, errW_some] <;> rfl) | (simp [*, errW_none, errW_some] <;> rfl), by repeat (first | (with_reducible first | exact HB.out | apply below_alloc | apply pw_below_drewN | apply below_drew1 | refine below_set ?_ GE127.out) | exact HB.out)⟩
                          · rw [if_neg c50] at H
                            have c50b0 : (!(t124.toList == ([] : List UInt8)) || (!(t125 == 0))) = false := by simpa using c50
                            have c50s : t124.toList.isEmpty = true ∧ (t125 == 0) = true := by
                              clear H c50
                              revert c50b0
                              cases t124.toList <;> cases (t125 == 0) <;> simp
                            obtain ⟨c50x, c50y⟩ := c50s
                            clear c50b0
                            clear c50
                            have H' := Aside0.mk H
                            clear H
                            have hcz52_0 : wc.cell? ⟨gb127, 0, none⟩ = some (.string t124) := (blk_cell BK127.out 0).trans rfl
                            have hcz52_1 : wc.cell? ⟨gb127, 1, none⟩ = some (.int .i64 t125) := (blk_cell BK127.out 1).trans rfl
                            have hfz52_0 := blk_frozen BK127.out 0
                            have hfz52_1 := blk_frozen BK127.out 1
                            go_wp2
                            repeat (go_quiet (fail); try go_wp2)
                            go_roundg kj24
                            case measure => have := HK1.out; have := HJ16.out; have := HJ24.out; omega
                            case rel => exact ⟨(wrap64 (x24_1 + 1)), (by first | rfl | (simp; done) | (simp [*]; done)), H', ⟨by have := HK1.out; have := HJ16.out; have := HJ24.out; omega⟩, ⟨by (with_reducible repeat (first | apply Kd.R_alloc | apply Kd.R_drewN | apply Kd.R_drew)); exact HO_22.out⟩, ⟨by repeat (first | (with_reducible first | exact HB.out | apply below_alloc | apply pw_below_drewN | apply below_drew1 | refine below_set ?_ GE127.out) | exact HB.out)⟩⟩
            · rw [if_neg c15] at H
              exact absurd H (by simp)
          · rw [if_neg c14] at H
            exact absurd H (by simp)
        · rw [if_neg c13] at H
          have c13b0 : decide (x24_1 < (y120.length : Int)) = false := decide_eq_false c13
          clear c13
          obtain rfl := Option.some.inj H
          go_wp2
          repeat (go_quiet (fail); try go_wp2)
          go_ret
          exact ⟨by first | rfl | (simp [errW_none, errW_some] <;> rfl) | (simp [*, errW_none, errW_some] <;> rfl), by repeat (first | (with_reducible first | exact HB.out | apply below_alloc | apply pw_below_drewN | apply below_drew1) | exact HB.out)⟩
  · replace c6 := Bool.eq_false_iff.mpr c6
    subst c6
    have H1 : (some false) = some r := by rw [if_neg (show ¬ (false = true) by decide)] at H; exact H
    clear H
    have H := H1
    clear H1
    obtain rfl := Option.some.inj H
    go_enter Try.func8, Try.ntmps8
    go_wp2_with (first | (go_at_call 19; (with_reducible refine (bolterlaw12_awake.calls  false _ A5.out).mono ?_); rintro e w53 ⟨rfl, hb⟩; have n0_ := Aside0.mk (below_step (by repeat (first | (with_reducible first | exact HB.out | apply below_alloc | apply pw_below_drewN | apply below_drew1) | exact HB.out)) hb); clear HB; have HB := n0_; clear n0_; (try clear hb); (try clear hb2); (try clear hk); (try clear hi)))
    repeat (go_quiet (first | (go_at_call 19; (with_reducible refine (bolterlaw12_awake.calls  false _ A5.out).mono ?_); rintro e w53 ⟨rfl, hb⟩; have n0_ := Aside0.mk (below_step (by repeat (first | (with_reducible first | exact HB.out | apply below_alloc | apply pw_below_drewN | apply below_drew1) | exact HB.out)) hb); clear HB; have HB := n0_; clear n0_; (try clear hb); (try clear hb2); (try clear hk); (try clear hi))); try go_wp2_with (first | (go_at_call 19; (with_reducible refine (bolterlaw12_awake.calls  false _ A5.out).mono ?_); rintro e w53 ⟨rfl, hb⟩; have n0_ := Aside0.mk (below_step (by repeat (first | (with_reducible first | exact HB.out | apply below_alloc | apply pw_below_drewN | apply below_drew1) | exact HB.out)) hb); clear HB; have HB := n0_; clear n0_; (try clear hb); (try clear hb2); (try clear hk); (try clear hi))))
    go_ret
    exact ⟨by first | rfl | (simp [errW_none, errW_some] <;> rfl) | (simp [*, errW_none, errW_some] <;> rfl), by repeat (first | (with_reducible first | exact HB.out | apply below_alloc | apply pw_below_drewN | apply below_drew1) | exact HB.out)⟩

/-- THE ONE PURE STATEMENT of bolterlaw12_PrefixCut: yours. -/
def bolterlaw12_PrefixCut.Pure : Prop := ∀ (a0 : ByteArray) (a1 : Int) (a2 : Bool) (l3 : List Int), a0.size ≤ 140737488351232 → (Lit.int .i64 a1).wf = true → l3.length ≤ maxLen → l3.length * 1 ≤ 140737488351232 → (∀ x ∈ l3, (Lit.int .u8 x).wf = true) → ∃ k, bolterlaw12_PrefixCut.f k a0 a1 a2 l3 = some true
theorem bolterlaw12_PrefixCut.walk (P : bolterlaw12_PrefixCut.Pure) (a0 : ByteArray) (a1 : Int) (a2 : Bool) (a3 : Option Addr) (len3 cap3 : Nat) (z3 : List Int) (w : World) (w0 : a0.size ≤ 140737488351232) (w1 : (Lit.int .i64 a1).wf = true) (w3 : (a3 = none ∧ len3 = 0 ∧ cap3 = 0 ∧ z3 = []) ∨ ∃ x, a3 = some x ∧ len3 ≤ cap3 ∧ cap3 ≤ maxLen ∧ z3.length = cap3 ∧ (∀ i, i < z3.length → w.cell? (x.add i) = some (.int .u8 (z3.getD i 0))) ∧ ∀ n ∈ z3, (Lit.int .u8 n).wf = true) (y3 : len3 * 1 ≤ 140737488351232) :
    Calls Try.prog 8 #[.string a0, .int .i64 a1, .bool a2, .slice a3 len3 cap3] w fun e w' => e = .returned (.bool true) ∧ Below w.heap.size w w' := by
  obtain ⟨l3, rfl, hr3, hm3, hw3, hc3⟩ := ReadsInt.ofRowC w3
  obtain ⟨k, h⟩ := P a0 a1 a2 l3 w0 w1 hm3 y3 hw3
  refine (bolterlaw12_PrefixCut.calls k a0 a1 a2 _ _ l3 true w (Kd.C_of_reads (d := (0 : Int)) (h1 := fun _ => rfl) hr3) hc3 h).mono ?_
  rintro e w' ⟨rfl, hd⟩
  exact ⟨rfl, hd⟩

end Go.Proofs.Ytbnmpopcnpjjdaa.PPre
