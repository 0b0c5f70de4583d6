-- Written by a program of this session (wip/tools/drive.py over the kit's printer): functions, contracts and rows (Nam).
import Derived.Test.YtihlimbdgipdeaaPNamx0
import Derived.Test.YtihlimbdgipdeaaPNamx17
import Derived.Test.YtihlimbdgipdeaaPNamx19
import Derived.Test.YtihlimbdgipdeaaPNamx20
import Derived.Test.YtihlimbdgipdeaaPNamx22
namespace Go.Proofs.Ytihlimbdgipdeaa.PNam
open Go.RowKit Go.Proofs.YtihlimbdgipdeaaW.PrintWords Go.Proofs.YtihlimbdgipdeaaW.PrintLast Go.Proofs.YtihlimbdgipdeaaW.PrintMore
attribute [local go_sem] max2_int min2_int max_two min_two max_three min_three max_four min_four   -- for this text's walks alone
open Go.Proofs.Ytihlimbdgipdeaa.Hand Go.Proofs.Ytihlimbdgipdeaa.PBase0
set_option linter.unusedVariables false
set_option linter.unusedSimpArgs false

/-! ### bolterlaw02_NameBelow: function 8 -/
mutual
def bolterlaw02_NameBelow.j0 : Nat → ByteArray → ByteArray → List ByteArray → List ByteArray → Bool → Option (Bool)
  | 0, _, _, _, _, _ => none
  | k + 1, x5, x6, x7, x8, x9 => (name_Strip.f k x5 x6).bind fun bt188 => ((name_Below.f k x5 x6).bind fun t190 => (if (t190 != x9) = true then (bolterlaw02_NameBelow.j1 k x5 x6 x7 x8 x9 bt188.1 true) else (bolterlaw02_NameBelow.j1 k x5 x6 x7 x8 x9 bt188.1 (bt188.2 != x9))))
def bolterlaw02_NameBelow.j1 : Nat → ByteArray → ByteArray → List ByteArray → List ByteArray → Bool → ByteArray → Bool → Option (Bool)
  | 0, _, _, _, _, _, _, _ => none
  | k + 1, x5, x6, x7, x8, x9, x10, x58 => if x58 = true then (some false) else (if x9 = true then ((name_Join.f k x10 x6).bind fun bt191 => ((name_Labels.f k x10).bind fun bt193 => (if bt191.2 = true then (if bt191.1.toList = x5.toList then (if 0 ≤ (wrap64 ((x7.length : Int) - (x8.length : Int))) then (if (wrap64 ((x7.length : Int) - (x8.length : Int))) ≤ (x7.length : Int) then ((bolterlaw02_same.f k bt193.1 (x7.take ((wrap64 ((x7.length : Int) - (x8.length : Int))) : Int).toNat)).bind fun t201 => (some t201)) else (none)) else (none)) else (some false)) else (some false)))) else (some (x10.toList == ([] : List UInt8))))
end
def bolterlaw02_NameBelow.f (k : Nat) (l0 : List Int) (l1 : List Int) : Option (Bool) := (bolterlaw02_awake.f k).bind fun t174 => (if t174 = true then ((bolterlaw02_Name.f k l0).bind fun t175 => ((bolterlaw02_Name.f k l1).bind fun t176 => ((bolterlaw02_Words.f k l0).bind fun t177 => ((bolterlaw02_Words.f k l1).bind fun t180 => (if (t177.length : Int) ≥ (t180.length : Int) then (if 0 ≤ (mx 0 (wrap64 ((t177.length : Int) - (t180.length : Int)))) then (if (mx 0 (wrap64 ((t177.length : Int) - (t180.length : Int)))) ≤ (t177.length : Int) then ((bolterlaw02_same.f k (t177.drop ((mx 0 (wrap64 ((t177.length : Int) - (t180.length : Int)))) : Int).toNat) t180).bind fun t187 => (bolterlaw02_NameBelow.j0 k t175 t176 t177 t180 t187)) else (none)) else (none)) else (bolterlaw02_NameBelow.j0 k t175 t176 t177 t180 false)))))) else (some false))
theorem bolterlaw02_NameBelow.mono_l : ∀ k, (∀ y0 y1 y2 y3 y4, LeO (bolterlaw02_NameBelow.j0 k y0 y1 y2 y3 y4) (bolterlaw02_NameBelow.j0 (k + 1) y0 y1 y2 y3 y4)) ∧ (∀ y0 y1 y2 y3 y4 y5 y6, LeO (bolterlaw02_NameBelow.j1 k y0 y1 y2 y3 y4 y5 y6) (bolterlaw02_NameBelow.j1 (k + 1) y0 y1 y2 y3 y4 y5 y6))
  | 0 => ⟨fun _ _ _ _ _ r h => by simp [bolterlaw02_NameBelow.j0] at h, fun _ _ _ _ _ _ _ r h => by simp [bolterlaw02_NameBelow.j1] at h⟩
  | k + 1 => by
    obtain ⟨ih0, ih1⟩ := bolterlaw02_NameBelow.mono_l k
    refine ⟨?_, ?_⟩
    · intro y0 y1 y2 y3 y4
      unfold bolterlaw02_NameBelow.j0
      repeat' first
      | (with_reducible exact ih0 _ _ _ _ _)
      | (with_reducible exact ih1 _ _ _ _ _ _ _)
      | (with_reducible exact bolterlaw02_Name.mono _ _)
      | (with_reducible exact bolterlaw02_Words.mono _ _)
      | (with_reducible exact bolterlaw02_awake.mono _)
      | (with_reducible exact bolterlaw02_same.mono _ _ _)
      | (with_reducible exact name_Below.mono _ _ _)
      | (with_reducible exact name_Join.mono _ _ _)
      | (with_reducible exact name_Labels.mono _ _)
      | (with_reducible exact name_Strip.mono _ _ _)
      | (with_reducible exact LeO.refl _)
      | (with_reducible exact LeO.none _)
      | (with_reducible refine LeO.ite ?_ ?_)
      | (with_reducible refine LeO.bind ?_ (fun _ => ?_))
      | exact ih0 _ _ _ _ _
      | exact ih1 _ _ _ _ _ _ _
      | exact bolterlaw02_Name.mono _ _
      | exact bolterlaw02_Words.mono _ _
      | exact bolterlaw02_awake.mono _
      | exact bolterlaw02_same.mono _ _ _
      | exact name_Below.mono _ _ _
      | exact name_Join.mono _ _ _
      | exact name_Labels.mono _ _
      | exact name_Strip.mono _ _ _
      | exact LeO.none _
      | refine LeO.ite ?_ ?_
      | refine LeO.bind ?_ (fun _ => ?_)
    · intro y0 y1 y2 y3 y4 y5 y6
      unfold bolterlaw02_NameBelow.j1
      repeat' first
      | (with_reducible exact ih0 _ _ _ _ _)
      | (with_reducible exact ih1 _ _ _ _ _ _ _)
      | (with_reducible exact bolterlaw02_Name.mono _ _)
      | (with_reducible exact bolterlaw02_Words.mono _ _)
      | (with_reducible exact bolterlaw02_awake.mono _)
      | (with_reducible exact bolterlaw02_same.mono _ _ _)
      | (with_reducible exact name_Below.mono _ _ _)
      | (with_reducible exact name_Join.mono _ _ _)
      | (with_reducible exact name_Labels.mono _ _)
      | (with_reducible exact name_Strip.mono _ _ _)
      | (with_reducible exact LeO.refl _)
      | (with_reducible exact LeO.none _)
      | (with_reducible refine LeO.ite ?_ ?_)
      | (with_reducible refine LeO.bind ?_ (fun _ => ?_))
      | exact ih0 _ _ _ _ _
      | exact ih1 _ _ _ _ _ _ _
      | exact bolterlaw02_Name.mono _ _
      | exact bolterlaw02_Words.mono _ _
      | exact bolterlaw02_awake.mono _
      | exact bolterlaw02_same.mono _ _ _
      | exact name_Below.mono _ _ _
      | exact name_Join.mono _ _ _
      | exact name_Labels.mono _ _
      | exact name_Strip.mono _ _ _
      | exact LeO.none _
      | refine LeO.ite ?_ ?_
      | refine LeO.bind ?_ (fun _ => ?_)
theorem bolterlaw02_NameBelow.mono : ∀ a0 a1 k, LeO (bolterlaw02_NameBelow.f k a0 a1) (bolterlaw02_NameBelow.f (k + 1) a0 a1) := by
  intro a0 a1 k
  obtain ⟨ih0, ih1⟩ := bolterlaw02_NameBelow.mono_l k
  unfold bolterlaw02_NameBelow.f
  repeat' first
      | (with_reducible exact ih0 _ _ _ _ _)
      | (with_reducible exact ih1 _ _ _ _ _ _ _)
      | (with_reducible exact bolterlaw02_Name.mono _ _)
      | (with_reducible exact bolterlaw02_Words.mono _ _)
      | (with_reducible exact bolterlaw02_awake.mono _)
      | (with_reducible exact bolterlaw02_same.mono _ _ _)
      | (with_reducible exact name_Below.mono _ _ _)
      | (with_reducible exact name_Join.mono _ _ _)
      | (with_reducible exact name_Labels.mono _ _)
      | (with_reducible exact name_Strip.mono _ _ _)
      | (with_reducible exact LeO.refl _)
      | (with_reducible exact LeO.none _)
      | (with_reducible refine LeO.ite ?_ ?_)
      | (with_reducible refine LeO.bind ?_ (fun _ => ?_))
      | exact ih0 _ _ _ _ _
      | exact ih1 _ _ _ _ _ _ _
      | exact bolterlaw02_Name.mono _ _
      | exact bolterlaw02_Words.mono _ _
      | exact bolterlaw02_awake.mono _
      | exact bolterlaw02_same.mono _ _ _
      | exact name_Below.mono _ _ _
      | exact name_Join.mono _ _ _
      | exact name_Labels.mono _ _
      | exact name_Strip.mono _ _ _
      | exact LeO.none _
      | refine LeO.ite ?_ ?_
      | refine LeO.bind ?_ (fun _ => ?_)
set_option maxHeartbeats 8000000 in
set_option maxRecDepth 100000 in
theorem bolterlaw02_NameBelow.calls (k : Nat) (A0 : Option Addr) (c0 : Nat) (l0 : List Int) (A1 : Option Addr) (c1 : Nat) (l1 : List Int) (r : Bool) (w : World) (hr0 : Kd.C (Kd.int .u8) w A0 l0.length l0) (hc0 : l0.length ≤ c0) (hr1 : Kd.C (Kd.int .u8) w A1 l1.length l1) (hc1 : l1.length ≤ c1) (h : bolterlaw02_NameBelow.f k l0 l1 = some r) :
    Calls Try.prog 8 #[.slice A0 l0.length c0, .slice A1 l1.length c1] w fun e w' => e = .returned (.bool r) ∧ Below w.heap.size w w' := by
  have HR0 := Aside0.mk hr0
  have HC0 := Aside0.mk hc0
  clear hr0 hc0
  have HR1 := Aside0.mk hr1
  have HC1 := Aside0.mk hc1
  clear hr1 hc1
  have HB := Aside0.mk (Below.refl w.heap.size w)
  have H : ((bolterlaw02_awake.f k).bind fun t174 => (if t174 = true then ((bolterlaw02_Name.f k l0).bind fun t175 => ((bolterlaw02_Name.f k l1).bind fun t176 => ((bolterlaw02_Words.f k l0).bind fun t177 => ((bolterlaw02_Words.f k l1).bind fun t180 => (if (t177.length : Int) ≥ (t180.length : Int) then (if 0 ≤ (mx 0 (wrap64 ((t177.length : Int) - (t180.length : Int)))) then (if (mx 0 (wrap64 ((t177.length : Int) - (t180.length : Int)))) ≤ (t177.length : Int) then ((bolterlaw02_same.f k (t177.drop ((mx 0 (wrap64 ((t177.length : Int) - (t180.length : Int)))) : Int).toNat) t180).bind fun t187 => (bolterlaw02_NameBelow.j0 k t175 t176 t177 t180 t187)) else (none)) else (none)) else (bolterlaw02_NameBelow.j0 k t175 t176 t177 t180 false)))))) else (some false))) = some r := h
  clear h
  replace H := Option.bind_eq_some_iff.mp H
  obtain ⟨t174, A30, H⟩ := H
  replace H : (if t174 = true then ((bolterlaw02_Name.f k l0).bind fun t175 => ((bolterlaw02_Name.f k l1).bind fun t176 => ((bolterlaw02_Words.f k l0).bind fun t177 => ((bolterlaw02_Words.f k l1).bind fun t180 => (if (t177.length : Int) ≥ (t180.length : Int) then (if 0 ≤ (mx 0 (wrap64 ((t177.length : Int) - (t180.length : Int)))) then (if (mx 0 (wrap64 ((t177.length : Int) - (t180.length : Int)))) ≤ (t177.length : Int) then ((bolterlaw02_same.f k (t177.drop ((mx 0 (wrap64 ((t177.length : Int) - (t180.length : Int)))) : Int).toNat) t180).bind fun t187 => (bolterlaw02_NameBelow.j0 k t175 t176 t177 t180 t187)) else (none)) else (none)) else (bolterlaw02_NameBelow.j0 k t175 t176 t177 t180 false)))))) else (some false)) = some r := H
  have A3 := Aside0.mk A30
  clear A30
  by_cases c4 : t174 = true
  · subst c4
    have H1 : ((bolterlaw02_Name.f k l0).bind fun t175 => ((bolterlaw02_Name.f k l1).bind fun t176 => ((bolterlaw02_Words.f k l0).bind fun t177 => ((bolterlaw02_Words.f k l1).bind fun t180 => (if (t177.length : Int) ≥ (t180.length : Int) then (if 0 ≤ (mx 0 (wrap64 ((t177.length : Int) - (t180.length : Int)))) then (if (mx 0 (wrap64 ((t177.length : Int) - (t180.length : Int)))) ≤ (t177.length : Int) then ((bolterlaw02_same.f k (t177.drop ((mx 0 (wrap64 ((t177.length : Int) - (t180.length : Int)))) : Int).toNat) t180).bind fun t187 => (bolterlaw02_NameBelow.j0 k t175 t176 t177 t180 t187)) else (none)) else (none)) else (bolterlaw02_NameBelow.j0 k t175 t176 t177 t180 false)))))) = some r := by rw [if_pos rfl] at H; exact H
    clear H
    have H := H1
    clear H1
    replace H := Option.bind_eq_some_iff.mp H
    obtain ⟨t175, A50, H⟩ := H
    replace H : ((bolterlaw02_Name.f k l1).bind fun t176 => ((bolterlaw02_Words.f k l0).bind fun t177 => ((bolterlaw02_Words.f k l1).bind fun t180 => (if (t177.length : Int) ≥ (t180.length : Int) then (if 0 ≤ (mx 0 (wrap64 ((t177.length : Int) - (t180.length : Int)))) then (if (mx 0 (wrap64 ((t177.length : Int) - (t180.length : Int)))) ≤ (t177.length : Int) then ((bolterlaw02_same.f k (t177.drop ((mx 0 (wrap64 ((t177.length : Int) - (t180.length : Int)))) : Int).toNat) t180).bind fun t187 => (bolterlaw02_NameBelow.j0 k t175 t176 t177 t180 t187)) else (none)) else (none)) else (bolterlaw02_NameBelow.j0 k t175 t176 t177 t180 false))))) = some r := H
    have A5 := Aside0.mk A50
    clear A50
    replace H := Option.bind_eq_some_iff.mp H
    obtain ⟨t176, A60, H⟩ := H
    replace H : ((bolterlaw02_Words.f k l0).bind fun t177 => ((bolterlaw02_Words.f k l1).bind fun t180 => (if (t177.length : Int) ≥ (t180.length : Int) then (if 0 ≤ (mx 0 (wrap64 ((t177.length : Int) - (t180.length : Int)))) then (if (mx 0 (wrap64 ((t177.length : Int) - (t180.length : Int)))) ≤ (t177.length : Int) then ((bolterlaw02_same.f k (t177.drop ((mx 0 (wrap64 ((t177.length : Int) - (t180.length : Int)))) : Int).toNat) t180).bind fun t187 => (bolterlaw02_NameBelow.j0 k t175 t176 t177 t180 t187)) else (none)) else (none)) else (bolterlaw02_NameBelow.j0 k t175 t176 t177 t180 false)))) = some r := H
    have A6 := Aside0.mk A60
    clear A60
    replace H := Option.bind_eq_some_iff.mp H
    obtain ⟨t177, A70, H⟩ := H
    replace H : ((bolterlaw02_Words.f k l1).bind fun t180 => (if (t177.length : Int) ≥ (t180.length : Int) then (if 0 ≤ (mx 0 (wrap64 ((t177.length : Int) - (t180.length : Int)))) then (if (mx 0 (wrap64 ((t177.length : Int) - (t180.length : Int)))) ≤ (t177.length : Int) then ((bolterlaw02_same.f k (t177.drop ((mx 0 (wrap64 ((t177.length : Int) - (t180.length : Int)))) : Int).toNat) t180).bind fun t187 => (bolterlaw02_NameBelow.j0 k t175 t176 t177 t180 t187)) else (none)) else (none)) else (bolterlaw02_NameBelow.j0 k t175 t176 t177 t180 false))) = some r := H
    have A7 := Aside0.mk A70
    clear A70
    replace H := Option.bind_eq_some_iff.mp H
    obtain ⟨t180, A80, H⟩ := H
    replace H : (if (t177.length : Int) ≥ (t180.length : Int) then (if 0 ≤ (mx 0 (wrap64 ((t177.length : Int) - (t180.length : Int)))) then (if (mx 0 (wrap64 ((t177.length : Int) - (t180.length : Int)))) ≤ (t177.length : Int) then ((bolterlaw02_same.f k (t177.drop ((mx 0 (wrap64 ((t177.length : Int) - (t180.length : Int)))) : Int).toNat) t180).bind fun t187 => (bolterlaw02_NameBelow.j0 k t175 t176 t177 t180 t187)) else (none)) else (none)) else (bolterlaw02_NameBelow.j0 k t175 t176 t177 t180 false)) = some r := H
    have A8 := Aside0.mk A80
    clear A80
    have HC9 := Aside0.mk H
    clear H
    go_enter Try.func8, Try.ntmps8
    go_upto_region 5 with (first | ((with_reducible refine gate_callee (f := 11) rfl ?_); refine goesL_ (some 16) rfl rfl Try.func11 (by kernel_rfl) rfl #[] rfl (by (try simp only [List.map_toArray, List.map_cons, List.map_nil]); first | done | rfl | (simp only [List.length_drop, List.length_take]; rfl)) ?_; (with_reducible refine (bolterlaw02_awake.calls k  true _ A3.out).mono ?_); rintro e w10 ⟨rfl, hb⟩; refine ⟨_, rfl, ?_⟩; have n0_ := Aside0.mk (below_step (by repeat (first | (with_reducible first | exact HB.out | apply below_alloc | apply pw_below_drewN | apply below_drew1) | exact HB.out)) hb); clear HB; have HB := n0_; clear n0_; (try clear hb); (try clear hb2); (try clear hk); (try clear hi)) | ((with_reducible refine gate_callee (f := 13) rfl ?_); refine goesL_ (some 19) rfl rfl Try.func13 (by kernel_rfl) rfl #[.slice A0 l0.length c0] rfl (by (try simp only [List.map_toArray, List.map_cons, List.map_nil]); first | done | rfl | (simp only [List.length_drop, List.length_take]; rfl)) ?_; (with_reducible refine (bolterlaw02_Name.calls k _ _ l0 t175 _ ?side1 ?side2 A5.out).mono ?_); (case side1 => repeat (first | exact (Kd.C_below HR0.out HB.out) | (with_reducible refine Kd.C_alloc ?_ _) | (with_reducible refine Kd.C_drewN ?_ _) | (with_reducible refine Kd.C_drew ?_))); (case side2 => exact HC0.out); rintro e w11 ⟨rfl, hb⟩; refine ⟨_, rfl, ?_⟩; have n0_ := Aside0.mk (below_step (by repeat (first | (with_reducible first | exact HB.out | apply below_alloc | apply pw_below_drewN | apply below_drew1) | exact HB.out)) hb); clear HB; have HB := n0_; clear n0_; (try clear hb); (try clear hb2); (try clear hk); (try clear hi)) | ((with_reducible refine gate_callee (f := 13) rfl ?_); refine goesL_ (some 21) rfl rfl Try.func13 (by kernel_rfl) rfl #[.slice A1 l1.length c1] rfl (by (try simp only [List.map_toArray, List.map_cons, List.map_nil]); first | done | rfl | (simp only [List.length_drop, List.length_take]; rfl)) ?_; (with_reducible refine (bolterlaw02_Name.calls k _ _ l1 t176 _ ?side1 ?side2 A6.out).mono ?_); (case side1 => repeat (first | exact (Kd.C_below HR1.out HB.out) | (with_reducible refine Kd.C_alloc ?_ _) | (with_reducible refine Kd.C_drewN ?_ _) | (with_reducible refine Kd.C_drew ?_))); (case side2 => exact HC1.out); rintro e w12 ⟨rfl, hb⟩; refine ⟨_, rfl, ?_⟩; have n0_ := Aside0.mk (below_step (by repeat (first | (with_reducible first | exact HB.out | apply below_alloc | apply pw_below_drewN | apply below_drew1) | exact HB.out)) hb); clear HB; have HB := n0_; clear n0_; (try clear hb); (try clear hb2); (try clear hk); (try clear hi)) | ((with_reducible refine gate_callee (f := 14) rfl ?_); refine goesL_ (some 23) rfl rfl Try.func14 (by kernel_rfl) rfl #[.slice A0 l0.length c0] rfl (by (try simp only [List.map_toArray, List.map_cons, List.map_nil]); first | done | rfl | (simp only [List.length_drop, List.length_take]; rfl)) ?_; (with_reducible refine (bolterlaw02_Words.calls k _ _ l0 t177 _ ?side1 ?side2 A7.out).mono ?_); (case side1 => repeat (first | exact (Kd.C_below HR0.out HB.out) | (with_reducible refine Kd.C_alloc ?_ _) | (with_reducible refine Kd.C_drewN ?_ _) | (with_reducible refine Kd.C_drew ?_))); (case side2 => exact HC0.out); rintro e w13 ⟨v178, rfl, ho0, hb⟩; refine ⟨_, rfl, ?_⟩; have n0_ := Aside0.mk (Kd.R_lower ho0 (below_size (by repeat (first | (with_reducible first | exact HB.out | apply below_alloc | apply pw_below_drewN | apply below_drew1) | exact HB.out)))); have n1_ := Aside0.mk (below_step (by repeat (first | (with_reducible first | exact HB.out | apply below_alloc | apply pw_below_drewN | apply below_drew1) | exact HB.out)) hb); clear HB; have HO179 := n0_; have HB := n1_; clear n0_ n1_; (try clear hb); (try clear hb2); (try clear hk); (try clear hi); (try clear ho0)) | ((with_reducible refine gate_callee (f := 14) rfl ?_); refine goesL_ (some 25) rfl rfl Try.func14 (by kernel_rfl) rfl #[.slice A1 l1.length c1] rfl (by (try simp only [List.map_toArray, List.map_cons, List.map_nil]); first | done | rfl | (simp only [List.length_drop, List.length_take]; rfl)) ?_; (with_reducible refine (bolterlaw02_Words.calls k _ _ l1 t180 _ ?side1 ?side2 A8.out).mono ?_); (case side1 => repeat (first | exact (Kd.C_below HR1.out HB.out) | (with_reducible refine Kd.C_alloc ?_ _) | (with_reducible refine Kd.C_drewN ?_ _) | (with_reducible refine Kd.C_drew ?_))); (case side2 => exact HC1.out); rintro e w14 ⟨v181, rfl, ho0, hb⟩; refine ⟨_, rfl, ?_⟩; have n0_ := Aside0.mk (Kd.R_elder' (by (with_reducible repeat (first | apply Kd.R_alloc | apply Kd.R_drewN | apply Kd.R_drew)); exact HO179.out) (Kd.R_base ho0) hb); have n1_ := Aside0.mk (Kd.R_lower (Kd.R_new' ho0 (Kd.R_lt (by (with_reducible repeat (first | apply Kd.R_alloc | apply Kd.R_drewN | apply Kd.R_drew)); exact HO179.out))) (below_size (by repeat (first | (with_reducible first | exact HB.out | apply below_alloc | apply pw_below_drewN | apply below_drew1) | exact HB.out)))); have n2_ := Aside0.mk (below_step (by repeat (first | (with_reducible first | exact HB.out | apply below_alloc | apply pw_below_drewN | apply below_drew1) | exact HB.out)) hb); clear HO179; clear HB; have HO179 := n0_; have HO182 := n1_; have HB := n2_; clear n0_ n1_ n2_; (try clear hb); (try clear hb2); (try clear hk); (try clear hi); (try clear ho0)))
    (try simp only [Act.put, List.setIfInBounds_toArray, List.set_cons_zero, List.set_cons_succ])
    go_cut [9] (fun v9 wc => ∃ (kq : Nat) (x9_8 : Bool), v9 = .bool x9_8 ∧ Aside0 (bolterlaw02_NameBelow.j0 kq t175 t176 t177 t180 x9_8 = some r) ∧ Aside0 (kq ≤ k) ∧ Aside0 (Kd.R Kd.string 9 wc w.heap.size (fun k_ => some k_ ≠ (v181 : Value).ownBlock) v178 t177) ∧ Aside0 (Kd.R Kd.string 9 wc w.heap.size (fun k_ => some k_ ≠ (v178 : Value).ownBlock) v181 t180) ∧ Aside0 (Below w.heap.size w wc))
    case first =>
      have H := HC9.out
      clear HC9
      by_cases c15 : (t177.length : Int) ≥ (t180.length : Int)
      · rw [if_pos c15] at H
        have c15b0 : decide ((t180.length : Int) ≤ (t177.length : Int)) = true := decide_eq_true c15
        have c15b1 : decide (t180.length ≤ t177.length) = true := decide_eq_true (Int.ofNat_le.mp c15)
        clear c15
        (first | rw [c15b0] | (simp only [i64_w, i32_w]; rw [c15b0]) | skip)
        obtain ⟨ji16, hji16⟩ : ∃ j_ : Int, (mx 0 (wrap64 ((t177.length : Int) - (t180.length : Int)))) = j_ := ⟨_, rfl⟩
        replace H : (if 0 ≤ (ji16) then (if (ji16) ≤ (t177.length : Int) then ((bolterlaw02_same.f k (t177.drop ((ji16) : Int).toNat) t180).bind fun t187 => (bolterlaw02_NameBelow.j0 k t175 t176 t177 t180 t187)) else (none)) else (none)) = some r := by first | (rw [hji16] at H; exact H) | (simp only [hji16] at H ⊢; exact H)
        (try (have hji16l : 0 ≤ ji16 := by (rw [← hji16]; unfold mx; (repeat' split) <;> omega)))
        (try (have hji16m : 0 ≤ ji16 := by omega))
        have hji16_ : (if 0 < (wrap64 ((t177.length : Int) - (t180.length : Int))) then (wrap64 ((t177.length : Int) - (t180.length : Int))) else 0) = ji16 := hji16
        by_cases c17 : 0 ≤ (ji16)
        · rw [if_pos c17] at H
          have c17b0 := eq_true c17
          have c17b1 : decide (0 ≤ (ji16)) = true := decide_eq_true c17
          clear c17
          by_cases c18 : (ji16) ≤ (t177.length : Int)
          · rw [if_pos c18] at H
            have c18b0 := eq_true c18
            have c18b1 : decide ((ji16) ≤ (t177.length : Int)) = true := decide_eq_true c18
            clear c18
            obtain ⟨y183, hy183⟩ : ∃ y_ : List ByteArray, y_ = (t177.drop ((ji16) : Int).toNat) := ⟨_, rfl⟩
            replace H : ((bolterlaw02_same.f k y183 t180).bind fun t187 => (bolterlaw02_NameBelow.j0 k t175 t176 t177 t180 t187)) = some r := by first | (rw [hy183]; with_reducible exact H) | (have H2_ := (Option.bind_some _ _).symm.trans H; rw [hy183]; with_reducible exact H2_) | (have H2_ := (Option.bind_some _ _).symm.trans H; with_reducible exact H2_) | with_reducible exact H | (rw [hy183]; exact H) | exact H
            have Ny183 := Aside0.mk hy183
            clear hy183
            replace H := Option.bind_eq_some_iff.mp H
            obtain ⟨t187, A190, H⟩ := H
            replace H : (bolterlaw02_NameBelow.j0 k t175 t176 t177 t180 t187) = some r := H
            have A19 := Aside0.mk A190
            clear A190
            have H' := Aside0.mk H
            clear H
            obtain ⟨Ao20, co20, eo20⟩ := Kd.R_slice HO179.out
            subst eo20
            obtain ⟨Ao21, co21, eo21⟩ := Kd.R_slice HO182.out
            subst eo21
            have q22 : ((ji16) : Int) ≤ ((t177.length : Int) : Int) := of_decide_eq_true (by first | (with_reducible assumption) | assumption)
            obtain ⟨i022, hi022, _, hsz22, _⟩ := info_parts info9
            have hroom22 : t177.length ≤ co20 := (Kd.R_reads' HO179.out).2.1
            have hC22 : Kd.C Kd.string _ Ao20 t177.length t177 := (Kd.R_reads' HO179.out).2.2
            have q022 : (0 : Int) ≤ ((ji16) : Int) := of_decide_eq_true (by first | (with_reducible assumption) | assumption)
            have hcut22 := cut_from (P := Try.prog) 28 9 .i64 Try.underlying28 hi022 1 hsz22 Ao20 t177.length co20 (ji16) q022 q22
            have hr22 := Kd.C_drop (m := ((ji16) : Int).toNat) (c := co20) hC22 (by omega) hroom22
            obtain ⟨A22, hA22⟩ : ∃ A1, A1 = (if co20 = ((ji16) : Int).toNat then Ao20 else (Ao20 : Option Addr).map (·.add (((ji16) : Int).toNat * 1))) := ⟨_, rfl⟩
            obtain ⟨c22, hc22⟩ : ∃ c1, c1 = co20 - ((ji16) : Int).toNat := ⟨_, rfl⟩
            have hy22 : y183.length = t177.length - ((ji16) : Int).toNat := (by rw [Ny183.out, List.length_drop] <;> omega)
            rw [show (t177).drop ((ji16) : Int).toNat = y183 from Ny183.out.symm] at hr22
            replace hr22 : Kd.C Kd.string _ A22 y183.length y183 := (by rw [hA22]; exact hr22)
            rw [← hy22, ← hA22, ← hc22] at hcut22
            have HR186 := Aside0.mk hr22
            have HC186 := Aside0.mk (show y183.length ≤ c22 from by rw [hy22, hc22]; exact Nat.sub_le_sub_right hroom22 _)
            clear hr22 hC22 hroom22 hi022 hsz22 hc22
            have KY22 := Aside0.mk hy22
            have KA22 := Aside0.mk hA22
            clear hy22 hA22
            have KL22 := Aside0.mk (show ((ji16) : Int).toNat ≤ t177.length from by omega)
            replace q22 := eq_true q22
            go_wp2_with (first | (go_at_call 19; (with_reducible refine (bolterlaw02_same.calls k _ _ y183 _ _ t180 t187 _ ?side1 ?side2 ?side3 ?side4 A19.out).mono ?_); (case side1 => repeat (first | exact (by repeat (first | (with_reducible exact HR186.out) | (with_reducible refine Kd.C_alloc ?_ _) | (with_reducible refine Kd.C_drewN ?_ _) | (with_reducible refine Kd.C_drew ?_) | exact HR186.out)) | (with_reducible refine Kd.C_alloc ?_ _) | (with_reducible refine Kd.C_drewN ?_ _) | (with_reducible refine Kd.C_drew ?_))); (case side2 => exact HC186.out); (case side3 => repeat (first | exact (Kd.R_reads' HO182.out).2.2 | (with_reducible refine Kd.C_alloc ?_ _) | (with_reducible refine Kd.C_drewN ?_ _) | (with_reducible refine Kd.C_drew ?_))); (case side4 => exact (Kd.R_reads' HO182.out).2.1); rintro e w' ⟨rfl, ⟨nd, rfl⟩⟩))
            go_meet
            case rel => exact ⟨_, (t187), (by first | rfl | (simp; done) | (simp [*]; done)), H', ⟨by first | omega | exact Nat.le_refl _⟩, ⟨by (with_reducible repeat (first | apply Kd.R_alloc | apply Kd.R_drewN | apply Kd.R_drew)); exact Kd.R_mono HO179.out (fun _ hk => hk.2)⟩, ⟨by (with_reducible repeat (first | apply Kd.R_alloc | apply Kd.R_drewN | apply Kd.R_drew)); exact Kd.R_mono HO182.out (fun _ hk => hk.2)⟩, ⟨by repeat (first | (with_reducible first | exact HB.out | apply below_alloc | apply pw_below_drewN | apply below_drew1) | exact HB.out)⟩⟩
          · rw [if_neg c18] at H
            exact absurd H (by simp)
        · rw [if_neg c17] at H
          exact absurd H (by simp)
      · rw [if_neg c15] at H
        have c15b0 : decide ((t180.length : Int) ≤ (t177.length : Int)) = false := decide_eq_false c15
        have c15b1 : decide (t180.length ≤ t177.length) = false := decide_eq_false (fun h => c15 (Int.ofNat_le.mpr h))
        clear c15
        (first | rw [c15b0] | (simp only [i64_w, i32_w]; rw [c15b0]) | skip)
        have H' := Aside0.mk H
        clear H
        obtain ⟨Ao23, co23, eo23⟩ := Kd.R_slice HO179.out
        subst eo23
        obtain ⟨Ao24, co24, eo24⟩ := Kd.R_slice HO182.out
        subst eo24
        go_wp2
        go_meet
        case rel => exact ⟨_, (false), (by first | rfl | (simp; done) | (simp [*]; done)), H', ⟨by first | omega | exact Nat.le_refl _⟩, ⟨by (with_reducible repeat (first | apply Kd.R_alloc | apply Kd.R_drewN | apply Kd.R_drew)); exact Kd.R_mono HO179.out (fun _ hk => hk.2)⟩, ⟨by (with_reducible repeat (first | apply Kd.R_alloc | apply Kd.R_drewN | apply Kd.R_drew)); exact Kd.R_mono HO182.out (fun _ hk => hk.2)⟩, ⟨by repeat (first | (with_reducible first | exact HB.out | apply below_alloc | apply pw_below_drewN | apply below_drew1) | exact HB.out)⟩⟩
    case rest =>
      clear HC9
      try clear c1
      try clear c2
      try clear p2
      try clear q2
      try clear c4
      try clear p6
      try clear c8
      try clear c11
      try clear c13
      try clear c14
      try clear c15
      try clear c15b0
      try clear c15b1
      try clear c17
      try clear c17b0
      try clear c17b1
      try clear c18
      try clear c18b0
      try clear c18b1
      try clear c22
      try clear q22
      try clear q022
      try clear q22
      obtain ⟨kq, x9_8, rfl, HA, HJ8, HO_7, HO_8, HB⟩ := hcut
      cases kq with
      | zero => exact absurd HA.out (by simp [bolterlaw02_NameBelow.j0])
      | succ kj8 =>
        have H := HA.out
        clear HA
        simp only [bolterlaw02_NameBelow.j0] at H
        replace H := Option.bind_eq_some_iff.mp H
        obtain ⟨⟨t188, t189⟩, A250, H⟩ := H
        replace H : ((name_Below.f kj8 t175 t176).bind fun t190 => (if (t190 != x9_8) = true then (bolterlaw02_NameBelow.j1 kj8 t175 t176 t177 t180 x9_8 t188 true) else (bolterlaw02_NameBelow.j1 kj8 t175 t176 t177 t180 x9_8 t188 (t189 != x9_8)))) = some r := H
        have A25 := Aside0.mk A250
        clear A250
        have HC26 := Aside0.mk H
        clear H
        go_upto_region 7 with (first | ((with_reducible refine gate_callee (f := 24) rfl ?_); refine goesL_ (some 46) rfl rfl Try.func24 (by kernel_rfl) rfl #[.string t175, .string t176] rfl (by (try simp only [List.map_toArray, List.map_cons, List.map_nil]); first | done | rfl | (simp only [List.length_drop, List.length_take]; rfl)) ?_; (with_reducible refine (name_Strip.calls kj8 t175 t176 t188 t189 _ A25.out).mono ?_); rintro e w27 ⟨rfl, hb⟩; refine ⟨_, rfl, ?_⟩; have n0_ := Aside0.mk (Kd.R_below (by (with_reducible repeat (first | apply Kd.R_alloc | apply Kd.R_drewN | apply Kd.R_drew)); exact HO_7.out) hb); have n1_ := Aside0.mk (Kd.R_below (by (with_reducible repeat (first | apply Kd.R_alloc | apply Kd.R_drewN | apply Kd.R_drew)); exact HO_8.out) hb); have n2_ := Aside0.mk (below_step (by repeat (first | (with_reducible first | exact HB.out | apply below_alloc | apply pw_below_drewN | apply below_drew1) | exact HB.out)) hb); clear HO_7; clear HO_8; clear HB; have HO_7 := n0_; have HO_8 := n1_; have HB := n2_; clear n0_ n1_ n2_; (try clear hb); (try clear hb2); (try clear hk); (try clear hi)))
        (try simp only [Act.put, List.setIfInBounds_toArray, List.set_cons_zero, List.set_cons_succ])
        go_cut [58] (fun v58 wc => ∃ (kq : Nat) (x58_25 : Bool), v58 = .bool x58_25 ∧ Aside0 (bolterlaw02_NameBelow.j1 kq t175 t176 t177 t180 x9_8 t188 x58_25 = some r) ∧ Aside0 (kq ≤ kj8) ∧ Aside0 (Kd.R Kd.string 9 wc w.heap.size (fun k_ => some k_ ≠ (v181 : Value).ownBlock) v178 t177) ∧ Aside0 (Kd.R Kd.string 9 wc w.heap.size (fun k_ => some k_ ≠ (v178 : Value).ownBlock) v181 t180) ∧ Aside0 (Below w.heap.size w wc))
        case first =>
          have H := HC26.out
          clear HC26
          replace H := Option.bind_eq_some_iff.mp H
          obtain ⟨t190, A280, H⟩ := H
          replace H : (if (t190 != x9_8) = true then (bolterlaw02_NameBelow.j1 kj8 t175 t176 t177 t180 x9_8 t188 true) else (bolterlaw02_NameBelow.j1 kj8 t175 t176 t177 t180 x9_8 t188 (t189 != x9_8))) = some r := H
          have A28 := Aside0.mk A280
          clear A280
          by_cases c29 : (t190 != x9_8) = true
          · rw [if_pos c29] at H
            have c29b0 : (t190 != x9_8) = true := c29
            (try (have c29b1 : decide (t190 = x9_8) = false := by simpa using c29))
            (try (have c29b2 : (t190 == x9_8) = false := by simpa using c29))
            (try (have c29b3 : ¬ (t190 = x9_8) := by simpa using c29))
            clear c29
            (first | rw [c29b0] | (simp only [i64_w, i32_w]; rw [c29b0]) | skip)
            have H' := Aside0.mk H
            clear H
            go_wp2_with (first | ((with_reducible refine gate_callee (f := 17) rfl ?_); refine goesL_ (some 51) rfl rfl Try.func17 (by kernel_rfl) rfl #[.string t175, .string t176] rfl (by (try simp only [List.map_toArray, List.map_cons, List.map_nil]); first | done | rfl | (simp only [List.length_drop, List.length_take]; rfl)) ?_; (with_reducible refine (name_Below.calls kj8 t175 t176 t190 _ A28.out).mono ?_); rintro e w30 ⟨rfl, hb⟩; refine ⟨_, rfl, ?_⟩; have n0_ := Aside0.mk (Kd.R_below (by (with_reducible repeat (first | apply Kd.R_alloc | apply Kd.R_drewN | apply Kd.R_drew)); exact HO_7.out) hb); have n1_ := Aside0.mk (Kd.R_below (by (with_reducible repeat (first | apply Kd.R_alloc | apply Kd.R_drewN | apply Kd.R_drew)); exact HO_8.out) hb); have n2_ := Aside0.mk (below_step (by repeat (first | (with_reducible first | exact HB.out | apply below_alloc | apply pw_below_drewN | apply below_drew1) | exact HB.out)) hb); clear HO_7; clear HO_8; clear HB; have HO_7 := n0_; have HO_8 := n1_; have HB := n2_; clear n0_ n1_ n2_; (try clear hb); (try clear hb2); (try clear hk); (try clear hi)))
            go_meet
            case rel => exact ⟨_, (true), (by first | rfl | (simp; done) | (simp [*]; done)), H', ⟨by have := HJ8.out; first | omega | exact Nat.le_refl _⟩, ⟨by (with_reducible repeat (first | apply Kd.R_alloc | apply Kd.R_drewN | apply Kd.R_drew)); exact HO_7.out⟩, ⟨by (with_reducible repeat (first | apply Kd.R_alloc | apply Kd.R_drewN | apply Kd.R_drew)); exact HO_8.out⟩, ⟨by repeat (first | (with_reducible first | exact HB.out | apply below_alloc | apply pw_below_drewN | apply below_drew1) | exact HB.out)⟩⟩
          · rw [if_neg c29] at H
            have c29b0 : (t190 != x9_8) = false := by simpa using c29
            (try (have c29b1 : decide (t190 = x9_8) = true := by simpa using c29))
            (try (have c29b2 : (t190 == x9_8) = true := by simpa using c29))
            clear c29
            (first | rw [c29b0] | (simp only [i64_w, i32_w]; rw [c29b0]) | skip)
            have H' := Aside0.mk H
            clear H
            go_wp2_with (first | ((with_reducible refine gate_callee (f := 17) rfl ?_); refine goesL_ (some 51) rfl rfl Try.func17 (by kernel_rfl) rfl #[.string t175, .string t176] rfl (by (try simp only [List.map_toArray, List.map_cons, List.map_nil]); first | done | rfl | (simp only [List.length_drop, List.length_take]; rfl)) ?_; (with_reducible refine (name_Below.calls kj8 t175 t176 t190 _ A28.out).mono ?_); rintro e w31 ⟨rfl, hb⟩; refine ⟨_, rfl, ?_⟩; have n0_ := Aside0.mk (Kd.R_below (by (with_reducible repeat (first | apply Kd.R_alloc | apply Kd.R_drewN | apply Kd.R_drew)); exact HO_7.out) hb); have n1_ := Aside0.mk (Kd.R_below (by (with_reducible repeat (first | apply Kd.R_alloc | apply Kd.R_drewN | apply Kd.R_drew)); exact HO_8.out) hb); have n2_ := Aside0.mk (below_step (by repeat (first | (with_reducible first | exact HB.out | apply below_alloc | apply pw_below_drewN | apply below_drew1) | exact HB.out)) hb); clear HO_7; clear HO_8; clear HB; have HO_7 := n0_; have HO_8 := n1_; have HB := n2_; clear n0_ n1_ n2_; (try clear hb); (try clear hb2); (try clear hk); (try clear hi)))
            go_meet
            case rel => exact ⟨_, ((t189 != x9_8)), (by first | rfl | (simp; done) | (simp [*]; done)), H', ⟨by have := HJ8.out; first | omega | exact Nat.le_refl _⟩, ⟨by (with_reducible repeat (first | apply Kd.R_alloc | apply Kd.R_drewN | apply Kd.R_drew)); exact HO_7.out⟩, ⟨by (with_reducible repeat (first | apply Kd.R_alloc | apply Kd.R_drewN | apply Kd.R_drew)); exact HO_8.out⟩, ⟨by repeat (first | (with_reducible first | exact HB.out | apply below_alloc | apply pw_below_drewN | apply below_drew1) | exact HB.out)⟩⟩
        case rest =>
          clear HC26
          try clear c1
          try clear c2
          try clear p2
          try clear q2
          try clear c4
          try clear p6
          try clear c8
          try clear c11
          try clear c13
          try clear c14
          try clear c15
          try clear c15b0
          try clear c15b1
          try clear c17
          try clear c17b0
          try clear c17b1
          try clear c18
          try clear c18b0
          try clear c18b1
          try clear c22
          try clear q22
          try clear c24
          try clear c29
          try clear c29b0
          try clear c29b1
          try clear c29b2
          try clear p2
          try clear p6
          try clear q022
          try clear q2
          try clear q22
          obtain ⟨kq, x58_25, rfl, HA, HJ25, HO_7, HO_8, HB⟩ := hcut
          cases kq with
          | zero => exact absurd HA.out (by simp [bolterlaw02_NameBelow.j1])
          | succ kj25 =>
            have H := HA.out
            clear HA
            simp only [bolterlaw02_NameBelow.j1] at H
            by_cases c32 : x58_25 = true
            · subst c32
              have H1 : (some false) = some r := by rw [if_pos rfl] at H; exact H
              clear H
              have H := H1
              clear H1
              obtain rfl := Option.some.inj H
              go_wp2
              go_ret
              exact ⟨by first | rfl | (simp [errW_none, errW_some] <;> rfl) | (simp [*, errW_none, errW_some] <;> rfl), by repeat (first | (with_reducible first | exact HB.out | apply below_alloc | apply pw_below_drewN | apply below_drew1) | exact HB.out)⟩
            · replace c32 := Bool.eq_false_iff.mpr c32
              subst c32
              have H1 : (if x9_8 = true then ((name_Join.f kj25 t188 t176).bind fun bt191 => ((name_Labels.f kj25 t188).bind fun bt193 => (if bt191.2 = true then (if bt191.1.toList = t175.toList then (if 0 ≤ (wrap64 ((t177.length : Int) - (t180.length : Int))) then (if (wrap64 ((t177.length : Int) - (t180.length : Int))) ≤ (t177.length : Int) then ((bolterlaw02_same.f kj25 bt193.1 (t177.take ((wrap64 ((t177.length : Int) - (t180.length : Int))) : Int).toNat)).bind fun t201 => (some t201)) else (none)) else (none)) else (some false)) else (some false)))) else (some (t188.toList == ([] : List UInt8)))) = some r := by rw [if_neg (show ¬ (false = true) by decide)] at H; exact H
              clear H
              have H := H1
              clear H1
              by_cases c33 : x9_8 = true
              · subst c33
                have H1 : ((name_Join.f kj25 t188 t176).bind fun bt191 => ((name_Labels.f kj25 t188).bind fun bt193 => (if bt191.2 = true then (if bt191.1.toList = t175.toList then (if 0 ≤ (wrap64 ((t177.length : Int) - (t180.length : Int))) then (if (wrap64 ((t177.length : Int) - (t180.length : Int))) ≤ (t177.length : Int) then ((bolterlaw02_same.f kj25 bt193.1 (t177.take ((wrap64 ((t177.length : Int) - (t180.length : Int))) : Int).toNat)).bind fun t201 => (some t201)) else (none)) else (none)) else (some false)) else (some false)))) = some r := by rw [if_pos rfl] at H; exact H
                clear H
                have H := H1
                clear H1
                replace H := Option.bind_eq_some_iff.mp H
                obtain ⟨⟨t191, t192⟩, A340, H⟩ := H
                replace H : ((name_Labels.f kj25 t188).bind fun bt193 => (if t192 = true then (if t191.toList = t175.toList then (if 0 ≤ (wrap64 ((t177.length : Int) - (t180.length : Int))) then (if (wrap64 ((t177.length : Int) - (t180.length : Int))) ≤ (t177.length : Int) then ((bolterlaw02_same.f kj25 bt193.1 (t177.take ((wrap64 ((t177.length : Int) - (t180.length : Int))) : Int).toNat)).bind fun t201 => (some t201)) else (none)) else (none)) else (some false)) else (some false))) = some r := H
                have A34 := Aside0.mk A340
                clear A340
                replace H := Option.bind_eq_some_iff.mp H
                obtain ⟨⟨t193, t194⟩, A350, H⟩ := H
                replace H : (if t192 = true then (if t191.toList = t175.toList then (if 0 ≤ (wrap64 ((t177.length : Int) - (t180.length : Int))) then (if (wrap64 ((t177.length : Int) - (t180.length : Int))) ≤ (t177.length : Int) then ((bolterlaw02_same.f kj25 t193 (t177.take ((wrap64 ((t177.length : Int) - (t180.length : Int))) : Int).toNat)).bind fun t201 => (some t201)) else (none)) else (none)) else (some false)) else (some false)) = some r := H
                have A35 := Aside0.mk A350
                clear A350
                by_cases c36 : t192 = true
                · subst c36
                  have H1 : (if t191.toList = t175.toList then (if 0 ≤ (wrap64 ((t177.length : Int) - (t180.length : Int))) then (if (wrap64 ((t177.length : Int) - (t180.length : Int))) ≤ (t177.length : Int) then ((bolterlaw02_same.f kj25 t193 (t177.take ((wrap64 ((t177.length : Int) - (t180.length : Int))) : Int).toNat)).bind fun t201 => (some t201)) else (none)) else (none)) else (some false)) = some r := by rw [if_pos rfl] at H; exact H
                  clear H
                  have H := H1
                  clear H1
                  by_cases c37 : t191.toList = t175.toList
                  · rw [if_pos c37] at H
                    have c37b0 : (t191.toList == t175.toList) = true := beq_iff_eq.mpr c37
                    have c37b1 : (t191.toList != t175.toList) = false := bne_eq_false_iff_eq.mpr c37
                    clear c37
                    obtain ⟨ji38, hji38⟩ : ∃ j_ : Int, (wrap64 ((t177.length : Int) - (t180.length : Int))) = j_ := ⟨_, rfl⟩
                    replace H : (if 0 ≤ (ji38) then (if (ji38) ≤ (t177.length : Int) then ((bolterlaw02_same.f kj25 t193 (t177.take ((ji38) : Int).toNat)).bind fun t201 => (some t201)) else (none)) else (none)) = some r := by first | (rw [hji38] at H; exact H) | (simp only [hji38] at H ⊢; exact H)
                    (try rw [hji38] at A34)
                    (try rw [hji38] at A35)
                    have hji38w : (IntKind.i64.wrap ((t177.length : Int) - (t180.length : Int))) = ji38 := (i64_w _).trans hji38
                    by_cases c39 : 0 ≤ (ji38)
                    · rw [if_pos c39] at H
                      have c39b0 := eq_true c39
                      have c39b1 : decide (0 ≤ (ji38)) = true := decide_eq_true c39
                      clear c39
                      by_cases c40 : (ji38) ≤ (t177.length : Int)
                      · rw [if_pos c40] at H
                        have c40b0 := eq_true c40
                        have c40b1 : decide ((ji38) ≤ (t177.length : Int)) = true := decide_eq_true c40
                        clear c40
                        obtain ⟨y197, hy197⟩ : ∃ y_ : List ByteArray, y_ = (t177.take ((ji38) : Int).toNat) := ⟨_, rfl⟩
                        replace H : ((bolterlaw02_same.f kj25 t193 y197).bind fun t201 => (some t201)) = some r := by first | (rw [hy197]; with_reducible exact H) | (have H2_ := (Option.bind_some _ _).symm.trans H; rw [hy197]; with_reducible exact H2_) | (have H2_ := (Option.bind_some _ _).symm.trans H; with_reducible exact H2_) | with_reducible exact H | (rw [hy197]; exact H) | exact H
                        have Ny197 := Aside0.mk hy197
                        clear hy197
                        replace H := Option.bind_eq_some_iff.mp H
                        obtain ⟨t201, A410, H⟩ := H
                        replace H : (some t201) = some r := H
                        have A41 := Aside0.mk A410
                        clear A410
                        obtain rfl := Option.some.inj H
                        go_wp2_with (first | ((with_reducible refine gate_callee (f := 23) rfl ?_); refine goesL_ (some 66) rfl rfl Try.func23 (by kernel_rfl) rfl #[.string t188, .string t176] rfl (by (try simp only [List.map_toArray, List.map_cons, List.map_nil]); first | done | rfl | (simp only [List.length_drop, List.length_take]; rfl)) ?_; (with_reducible refine (name_Join.calls kj25 t188 t176 t191 true _ A34.out).mono ?_); rintro e w42 ⟨rfl, hb⟩; refine ⟨_, rfl, ?_⟩; have n0_ := Aside0.mk (Kd.R_below (by (with_reducible repeat (first | apply Kd.R_alloc | apply Kd.R_drewN | apply Kd.R_drew)); exact HO_7.out) hb); have n1_ := Aside0.mk (Kd.R_below (by (with_reducible repeat (first | apply Kd.R_alloc | apply Kd.R_drewN | apply Kd.R_drew)); exact HO_8.out) hb); have n2_ := Aside0.mk (below_step (by repeat (first | (with_reducible first | exact HB.out | apply below_alloc | apply pw_below_drewN | apply below_drew1) | exact HB.out)) hb); clear HO_7; clear HO_8; clear HB; have HO_7 := n0_; have HO_8 := n1_; have HB := n2_; clear n0_ n1_ n2_; (try clear hb); (try clear hb2); (try clear hk); (try clear hi)) | ((with_reducible refine gate_callee (f := 18) rfl ?_); refine goesL_ (some 71) rfl rfl Try.func18 (by kernel_rfl) rfl #[.string t188] rfl (by (try simp only [List.map_toArray, List.map_cons, List.map_nil]); first | done | rfl | (simp only [List.length_drop, List.length_take]; rfl)) ?_; (with_reducible refine (name_Labels.calls kj25 t188 t193 t194 _ A35.out).mono ?_); rintro e w43 ⟨v195, rfl, ho0, hb⟩; refine ⟨_, rfl, ?_⟩; have n0_ := Aside0.mk (Kd.R_elder' (by (with_reducible repeat (first | apply Kd.R_alloc | apply Kd.R_drewN | apply Kd.R_drew)); exact HO_7.out) (Kd.R_base ho0) hb); have n1_ := Aside0.mk (Kd.R_elder' (by (with_reducible repeat (first | apply Kd.R_alloc | apply Kd.R_drewN | apply Kd.R_drew)); exact HO_8.out) (Kd.R_base ho0) hb); have n2_ := Aside0.mk (Kd.R_lower (Kd.R_new' (Kd.R_new' ho0 (Kd.R_lt (by (with_reducible repeat (first | apply Kd.R_alloc | apply Kd.R_drewN | apply Kd.R_drew)); exact HO_7.out))) (Kd.R_lt (by (with_reducible repeat (first | apply Kd.R_alloc | apply Kd.R_drewN | apply Kd.R_drew)); exact HO_8.out))) (below_size (by repeat (first | (with_reducible first | exact HB.out | apply below_alloc | apply pw_below_drewN | apply below_drew1) | exact HB.out)))); have n3_ := Aside0.mk (below_step (by repeat (first | (with_reducible first | exact HB.out | apply below_alloc | apply pw_below_drewN | apply below_drew1) | exact HB.out)) hb); clear HO_7; clear HO_8; clear HB; have HO_7 := n0_; have HO_8 := n1_; have HO196 := n2_; have HB := n3_; clear n0_ n1_ n2_ n3_; (try clear hb); (try clear hb2); (try clear hk); (try clear hi); (try clear ho0); obtain ⟨Ao44, co44, eo44⟩ := Kd.R_slice HO_7.out; subst eo44; obtain ⟨Ao45, co45, eo45⟩ := Kd.R_slice HO_8.out; subst eo45; have q46 : ((ji38) : Int) ≤ ((t177.length : Int) : Int) := of_decide_eq_true (by first | (with_reducible assumption) | assumption); obtain ⟨i046, hi046, _, hsz46, _⟩ := info_parts info9; have hroom46 : t177.length ≤ co44 := (Kd.R_reads' HO_7.out).2.1; have hC46 : Kd.C Kd.string _ Ao44 t177.length t177 := (Kd.R_reads' HO_7.out).2.2; have hcut46 := cut_to (P := Try.prog) 28 9 .i64 Try.underlying28 hi046 Ao44 t177.length co44 (ji38) (of_decide_eq_true (by first | (with_reducible assumption) | assumption)) q46 hroom46; have hr46 := Kd.C_take (m := ((ji38) : Int).toNat) hC46 (by omega); have hy46 : y197.length = ((ji38) : Int).toNat := (by rw [Ny197.out, List.length_take]; omega); rw [← Ny197.out] at hr46; rw [← hy46] at hcut46; have HR200 := Aside0.mk hr46; have HC200 := Aside0.mk (show y197.length ≤ co44 from by omega); clear hr46 hC46 hroom46 hi046 hsz46; have KY46 := Aside0.mk hy46; clear hy46; have KL46 := Aside0.mk (show ((ji38) : Int).toNat ≤ t177.length from by omega); replace q46 := eq_true q46; obtain ⟨Ao47, co47, eo47⟩ := Kd.R_slice HO196.out; subst eo47) | (go_at_call 19; (with_reducible refine (bolterlaw02_same.calls kj25 _ _ t193 _ _ y197 t201 _ ?side1 ?side2 ?side3 ?side4 A41.out).mono ?_); (case side1 => repeat (first | exact (Kd.R_reads' HO196.out).2.2 | (with_reducible refine Kd.C_alloc ?_ _) | (with_reducible refine Kd.C_drewN ?_ _) | (with_reducible refine Kd.C_drew ?_))); (case side2 => exact (Kd.R_reads' HO196.out).2.1); (case side3 => repeat (first | exact (by repeat (first | (with_reducible exact HR200.out) | (with_reducible refine Kd.C_alloc ?_ _) | (with_reducible refine Kd.C_drewN ?_ _) | (with_reducible refine Kd.C_drew ?_) | exact HR200.out)) | (with_reducible refine Kd.C_alloc ?_ _) | (with_reducible refine Kd.C_drewN ?_ _) | (with_reducible refine Kd.C_drew ?_))); (case side4 => exact HC200.out); rintro e w' ⟨rfl, ⟨nd, rfl⟩⟩))
                        go_ret
                        exact ⟨by first | rfl | (simp [errW_none, errW_some] <;> rfl) | (simp only [← hji38]; first | rfl | (simp [errW_none, errW_some] <;> rfl)) | (simp [*, errW_none, errW_some] <;> rfl), by repeat (first | (with_reducible first | exact HB.out | apply below_alloc | apply pw_below_drewN | apply below_drew1) | exact HB.out)⟩
                      · rw [if_neg c40] at H
                        exact absurd H (by simp)
                    · rw [if_neg c39] at H
                      exact absurd H (by simp)
                  · rw [if_neg c37] at H
                    have c37b0 : (t191.toList == t175.toList) = false := beq_eq_false_iff_ne.mpr c37
                    have c37b1 : (t191.toList != t175.toList) = true := bne_iff_ne.mpr c37
                    obtain rfl := Option.some.inj H
                    go_wp2_with (first | ((with_reducible refine gate_callee (f := 23) rfl ?_); refine goesL_ (some 66) rfl rfl Try.func23 (by kernel_rfl) rfl #[.string t188, .string t176] rfl (by (try simp only [List.map_toArray, List.map_cons, List.map_nil]); first | done | rfl | (simp only [List.length_drop, List.length_take]; rfl)) ?_; (with_reducible refine (name_Join.calls kj25 t188 t176 t191 true _ A34.out).mono ?_); rintro e w48 ⟨rfl, hb⟩; refine ⟨_, rfl, ?_⟩; have n0_ := Aside0.mk (Kd.R_below (by (with_reducible repeat (first | apply Kd.R_alloc | apply Kd.R_drewN | apply Kd.R_drew)); exact HO_7.out) hb); have n1_ := Aside0.mk (Kd.R_below (by (with_reducible repeat (first | apply Kd.R_alloc | apply Kd.R_drewN | apply Kd.R_drew)); exact HO_8.out) hb); have n2_ := Aside0.mk (below_step (by repeat (first | (with_reducible first | exact HB.out | apply below_alloc | apply pw_below_drewN | apply below_drew1) | exact HB.out)) hb); clear HO_7; clear HO_8; clear HB; have HO_7 := n0_; have HO_8 := n1_; have HB := n2_; clear n0_ n1_ n2_; (try clear hb); (try clear hb2); (try clear hk); (try clear hi)) | ((with_reducible refine gate_callee (f := 18) rfl ?_); refine goesL_ (some 71) rfl rfl Try.func18 (by kernel_rfl) rfl #[.string t188] rfl (by (try simp only [List.map_toArray, List.map_cons, List.map_nil]); first | done | rfl | (simp only [List.length_drop, List.length_take]; rfl)) ?_; (with_reducible refine (name_Labels.calls kj25 t188 t193 t194 _ A35.out).mono ?_); rintro e w49 ⟨v195, rfl, ho0, hb⟩; refine ⟨_, rfl, ?_⟩; have n0_ := Aside0.mk (Kd.R_elder' (by (with_reducible repeat (first | apply Kd.R_alloc | apply Kd.R_drewN | apply Kd.R_drew)); exact HO_7.out) (Kd.R_base ho0) hb); have n1_ := Aside0.mk (Kd.R_elder' (by (with_reducible repeat (first | apply Kd.R_alloc | apply Kd.R_drewN | apply Kd.R_drew)); exact HO_8.out) (Kd.R_base ho0) hb); have n2_ := Aside0.mk (Kd.R_lower (Kd.R_new' (Kd.R_new' ho0 (Kd.R_lt (by (with_reducible repeat (first | apply Kd.R_alloc | apply Kd.R_drewN | apply Kd.R_drew)); exact HO_7.out))) (Kd.R_lt (by (with_reducible repeat (first | apply Kd.R_alloc | apply Kd.R_drewN | apply Kd.R_drew)); exact HO_8.out))) (below_size (by repeat (first | (with_reducible first | exact HB.out | apply below_alloc | apply pw_below_drewN | apply below_drew1) | exact HB.out)))); have n3_ := Aside0.mk (below_step (by repeat (first | (with_reducible first | exact HB.out | apply below_alloc | apply pw_below_drewN | apply below_drew1) | exact HB.out)) hb); clear HO_7; clear HO_8; clear HB; have HO_7 := n0_; have HO_8 := n1_; have HO196 := n2_; have HB := n3_; clear n0_ n1_ n2_ n3_; (try clear hb); (try clear hb2); (try clear hk); (try clear hi); (try clear ho0)))
                    go_ret
                    exact ⟨by first | rfl | (simp [errW_none, errW_some] <;> rfl) | (simp [*, errW_none, errW_some] <;> rfl), by repeat (first | (with_reducible first | exact HB.out | apply below_alloc | apply pw_below_drewN | apply below_drew1) | exact HB.out)⟩
                · replace c36 := Bool.eq_false_iff.mpr c36
                  subst c36
                  have H1 : (some false) = some r := by rw [if_neg (show ¬ (false = true) by decide)] at H; exact H
                  clear H
                  have H := H1
                  clear H1
                  obtain rfl := Option.some.inj H
                  go_wp2_with (first | ((with_reducible refine gate_callee (f := 23) rfl ?_); refine goesL_ (some 66) rfl rfl Try.func23 (by kernel_rfl) rfl #[.string t188, .string t176] rfl (by (try simp only [List.map_toArray, List.map_cons, List.map_nil]); first | done | rfl | (simp only [List.length_drop, List.length_take]; rfl)) ?_; (with_reducible refine (name_Join.calls kj25 t188 t176 t191 false _ A34.out).mono ?_); rintro e w50 ⟨rfl, hb⟩; refine ⟨_, rfl, ?_⟩; have n0_ := Aside0.mk (Kd.R_below (by (with_reducible repeat (first | apply Kd.R_alloc | apply Kd.R_drewN | apply Kd.R_drew)); exact HO_7.out) hb); have n1_ := Aside0.mk (Kd.R_below (by (with_reducible repeat (first | apply Kd.R_alloc | apply Kd.R_drewN | apply Kd.R_drew)); exact HO_8.out) hb); have n2_ := Aside0.mk (below_step (by repeat (first | (with_reducible first | exact HB.out | apply below_alloc | apply pw_below_drewN | apply below_drew1) | exact HB.out)) hb); clear HO_7; clear HO_8; clear HB; have HO_7 := n0_; have HO_8 := n1_; have HB := n2_; clear n0_ n1_ n2_; (try clear hb); (try clear hb2); (try clear hk); (try clear hi)) | ((with_reducible refine gate_callee (f := 18) rfl ?_); refine goesL_ (some 71) rfl rfl Try.func18 (by kernel_rfl) rfl #[.string t188] rfl (by (try simp only [List.map_toArray, List.map_cons, List.map_nil]); first | done | rfl | (simp only [List.length_drop, List.length_take]; rfl)) ?_; (with_reducible refine (name_Labels.calls kj25 t188 t193 t194 _ A35.out).mono ?_); rintro e w51 ⟨v195, rfl, ho0, hb⟩; refine ⟨_, rfl, ?_⟩; have n0_ := Aside0.mk (Kd.R_elder' (by (with_reducible repeat (first | apply Kd.R_alloc | apply Kd.R_drewN | apply Kd.R_drew)); exact HO_7.out) (Kd.R_base ho0) hb); have n1_ := Aside0.mk (Kd.R_elder' (by (with_reducible repeat (first | apply Kd.R_alloc | apply Kd.R_drewN | apply Kd.R_drew)); exact HO_8.out) (Kd.R_base ho0) hb); have n2_ := Aside0.mk (Kd.R_lower (Kd.R_new' (Kd.R_new' ho0 (Kd.R_lt (by (with_reducible repeat (first | apply Kd.R_alloc | apply Kd.R_drewN | apply Kd.R_drew)); exact HO_7.out))) (Kd.R_lt (by (with_reducible repeat (first | apply Kd.R_alloc | apply Kd.R_drewN | apply Kd.R_drew)); exact HO_8.out))) (below_size (by repeat (first | (with_reducible first | exact HB.out | apply below_alloc | apply pw_below_drewN | apply below_drew1) | exact HB.out)))); have n3_ := Aside0.mk (below_step (by repeat (first | (with_reducible first | exact HB.out | apply below_alloc | apply pw_below_drewN | apply below_drew1) | exact HB.out)) hb); clear HO_7; clear HO_8; clear HB; have HO_7 := n0_; have HO_8 := n1_; have HO196 := n2_; have HB := n3_; clear n0_ n1_ n2_ n3_; (try clear hb); (try clear hb2); (try clear hk); (try clear hi); (try clear ho0)))
                  go_ret
                  exact ⟨by first | rfl | (simp [errW_none, errW_some] <;> rfl) | (simp [*, errW_none, errW_some] <;> rfl), by repeat (first | (with_reducible first | exact HB.out | apply below_alloc | apply pw_below_drewN | apply below_drew1) | exact HB.out)⟩
              · replace c33 := Bool.eq_false_iff.mpr c33
                subst c33
                have H1 : (some (t188.toList == ([] : List UInt8))) = some r := by rw [if_neg (show ¬ (false = true) by decide)] at H; exact H
                clear H
                have H := H1
                clear H1
                obtain rfl := Option.some.inj H
                go_wp2
                go_ret
                exact ⟨by first | rfl | (simp [errW_none, errW_some] <;> rfl) | (simp [*, errW_none, errW_some] <;> rfl), by repeat (first | (with_reducible first | exact HB.out | apply below_alloc | apply pw_below_drewN | apply below_drew1) | exact HB.out)⟩
  · replace c4 := Bool.eq_false_iff.mpr c4
    subst c4
    have H1 : (some false) = some r := by rw [if_neg (show ¬ (false = true) by decide)] at H; exact H
    clear H
    have H := H1
    clear H1
    obtain rfl := Option.some.inj H
    go_enter Try.func8, Try.ntmps8
    go_wp2_with (first | ((with_reducible refine gate_callee (f := 11) rfl ?_); refine goesL_ (some 16) rfl rfl Try.func11 (by kernel_rfl) rfl #[] rfl (by (try simp only [List.map_toArray, List.map_cons, List.map_nil]); first | done | rfl | (simp only [List.length_drop, List.length_take]; rfl)) ?_; (with_reducible refine (bolterlaw02_awake.calls k  false _ A3.out).mono ?_); rintro e w52 ⟨rfl, hb⟩; refine ⟨_, rfl, ?_⟩; have n0_ := Aside0.mk (below_step (by repeat (first | (with_reducible first | exact HB.out | apply below_alloc | apply pw_below_drewN | apply below_drew1) | exact HB.out)) hb); clear HB; have HB := n0_; clear n0_; (try clear hb); (try clear hb2); (try clear hk); (try clear hi)))
    go_ret
    exact ⟨by first | rfl | (simp [errW_none, errW_some] <;> rfl) | (simp [*, errW_none, errW_some] <;> rfl), by repeat (first | (with_reducible first | exact HB.out | apply below_alloc | apply pw_below_drewN | apply below_drew1) | exact HB.out)⟩

/-- THE ONE PURE STATEMENT of bolterlaw02_NameBelow: yours. -/
def bolterlaw02_NameBelow.Pure : Prop := ∀ (l0 : List Int) (l1 : List Int), l0.length ≤ maxLen → l0.length * 1 ≤ 140737488351232 → (∀ x ∈ l0, (Lit.int .u8 x).wf = true) → l1.length ≤ maxLen → l1.length * 1 ≤ 140737488351232 → (∀ x ∈ l1, (Lit.int .u8 x).wf = true) → ∃ k, bolterlaw02_NameBelow.f k l0 l1 = some true
theorem bolterlaw02_NameBelow.walk (P : bolterlaw02_NameBelow.Pure) (a0 : Option Addr) (len0 cap0 : Nat) (z0 : List Int) (a1 : Option Addr) (len1 cap1 : Nat) (z1 : List Int) (w : World) (w0 : (a0 = none ∧ len0 = 0 ∧ cap0 = 0 ∧ z0 = []) ∨ ∃ x, a0 = some x ∧ len0 ≤ cap0 ∧ cap0 ≤ maxLen ∧ z0.length = cap0 ∧ (∀ i, i < z0.length → w.cell? (x.add i) = some (.int .u8 (z0.getD i 0))) ∧ ∀ n ∈ z0, (Lit.int .u8 n).wf = true) (y0 : len0 * 1 ≤ 140737488351232) (w1 : (a1 = none ∧ len1 = 0 ∧ cap1 = 0 ∧ z1 = []) ∨ ∃ x, a1 = some x ∧ len1 ≤ cap1 ∧ cap1 ≤ maxLen ∧ z1.length = cap1 ∧ (∀ i, i < z1.length → w.cell? (x.add i) = some (.int .u8 (z1.getD i 0))) ∧ ∀ n ∈ z1, (Lit.int .u8 n).wf = true) (y1 : len1 * 1 ≤ 140737488351232) :
    Calls Try.prog 8 #[.slice a0 len0 cap0, .slice a1 len1 cap1] w fun e w' => e = .returned (.bool true) ∧ Below w.heap.size w w' := by
  obtain ⟨l0, rfl, hr0, hm0, hw0, hc0⟩ := ReadsInt.ofRowC w0
  obtain ⟨l1, rfl, hr1, hm1, hw1, hc1⟩ := ReadsInt.ofRowC w1
  obtain ⟨k, h⟩ := P l0 l1 hm0 y0 hw0 hm1 y1 hw1
  refine (bolterlaw02_NameBelow.calls k _ _ l0 _ _ l1 true w (Kd.C_of_reads (d := (0 : Int)) (h1 := fun _ => rfl) hr0) hc0 (Kd.C_of_reads (d := (0 : Int)) (h1 := fun _ => rfl) hr1) hc1 h).mono ?_
  rintro e w' ⟨rfl, hd⟩
  exact ⟨rfl, hd⟩

end Go.Proofs.Ytihlimbdgipdeaa.PNam
