-- Written by a program of this session (wip/tools/drive.py over the kit's printer): functions, contracts and rows (Pre).
import Derived.Test.YtbnmpopcnpjjdaaPPrex0
import Derived.Test.YtbnmpopcnpjjdaaPPrex11
import Derived.Test.YtbnmpopcnpjjdaaPPrex12
import Derived.Test.YtbnmpopcnpjjdaaPPrex13
namespace Go.Proofs.Ytbnmpopcnpjjdaa.PPre
open Go.RowKit Go.Proofs.YtbnmpopcnpjjdaaW.PrintWords Go.Proofs.YtbnmpopcnpjjdaaW.PrintLast Go.Proofs.YtbnmpopcnpjjdaaW.PrintMore
attribute [local go_sem] max2_int min2_int max_two min_two max_three min_three max_four min_four   -- for this text's walks alone
open Go.Proofs.Ytbnmpopcnpjjdaa.Hand Go.Proofs.Ytbnmpopcnpjjdaa.PBase0
set_option linter.unusedVariables false
set_option linter.unusedSimpArgs false

/-! ### bolterlaw12_PrefixHas: function 9 -/
def bolterlaw12_PrefixHas.j0 : Nat → ByteArray → ByteArray → Int → Bool → ByteArray → Int → Option (Bool)
  | 0, _, _, _, _, _, _ => none
  | k + 1, x11, x12, x13, x52, x138000, x138001 => if x52 = true then (some false) else (if (x11.size : Int) = (x12.size : Int) then ((bolterlaw12_bits.f k x11).bind fun t140 => (if 0 ≤ x13 then (if x13 ≤ (t140.size : Int) then ((bolterlaw12_bits.f k x12).bind fun t141 => (if 0 ≤ (mn x13 (wrap64 (8 * (x12.size : Int)))) then (if (mn x13 (wrap64 (8 * (x12.size : Int)))) ≤ (t141.size : Int) then ((prefix_Has.f x138000 x138001 x12).bind fun t142 => (if (t142 == ((t140.extract 0 (x13 : Int).toNat).toList == (t141.extract 0 ((mn x13 (wrap64 (8 * (x12.size : Int)))) : Int).toNat).toList)) = true then (if x11.size + 1 ≤ 9223372036854775807 then ((prefix_Has.f x138000 x138001 (x11 ++ (⟨#[120]⟩ : ByteArray))).bind fun t143 => (some (!t143))) else (none)) else (some false))) else (none)) else (none))) else (none)) else (none))) else ((prefix_Has.f x138000 x138001 x12).bind fun t144 => (if (t144 == false) = true then (if x11.size + 1 ≤ 9223372036854775807 then ((prefix_Has.f x138000 x138001 (x11 ++ (⟨#[120]⟩ : ByteArray))).bind fun t145 => (some (!t145))) else (none)) else (some false))))
def bolterlaw12_PrefixHas.f (k : Nat) (a0 : Bool) (l1 : List Int) (a2 : Int) (l3 : List Int) (a4 : Bool) : Option (Bool) := (bolterlaw12_awake.f).bind fun t131 => (if t131 = true then ((bolterlaw12_Addr.f k a0 l1).bind fun t132 => ((bolterlaw12_Addr.f k (a0 != a4) l3).bind fun t133 => (if (wrap64 ((wrap64 (8 * (t132.size : Int))) + 1)) = 0 then (none) else ((prefix_Cut.f t132 (Int.tmod (wrap64 (a2)) (wrap64 ((wrap64 (8 * (t132.size : Int))) + 1)))).bind fun bt134 => (if bt134.2.2 = true then ((prefix_May.f bt134.1 bt134.2.1).bind fun t138 => (if t138 = true then ((prefix_Has.f bt134.1 bt134.2.1 t132).bind fun t139 => (bolterlaw12_PrefixHas.j0 k t132 t133 (Int.tmod (wrap64 (a2)) (wrap64 ((wrap64 (8 * (t132.size : Int))) + 1))) (!t139) bt134.1 bt134.2.1)) else (bolterlaw12_PrefixHas.j0 k t132 t133 (Int.tmod (wrap64 (a2)) (wrap64 ((wrap64 (8 * (t132.size : Int))) + 1))) true bt134.1 bt134.2.1))) else (bolterlaw12_PrefixHas.j0 k t132 t133 (Int.tmod (wrap64 (a2)) (wrap64 ((wrap64 (8 * (t132.size : Int))) + 1))) true bt134.1 bt134.2.1)))))) else (some false))
theorem bolterlaw12_PrefixHas.mono_l : ∀ k, (∀ y0 y1 y2 y3 y4 y5, LeO (bolterlaw12_PrefixHas.j0 k y0 y1 y2 y3 y4 y5) (bolterlaw12_PrefixHas.j0 (k + 1) y0 y1 y2 y3 y4 y5))
  | 0 => fun _ _ _ _ _ _ r h => by simp [bolterlaw12_PrefixHas.j0] at h
  | k + 1 => by
    have ih0 := bolterlaw12_PrefixHas.mono_l k
    · intro y0 y1 y2 y3 y4 y5
      unfold bolterlaw12_PrefixHas.j0
      repeat' first
      | (with_reducible exact ih0 _ _ _ _ _ _)
      | (with_reducible exact bolterlaw12_Addr.mono _ _ _)
      | (with_reducible exact bolterlaw12_bits.mono _ _)
      | (with_reducible exact LeO.refl _)
      | (with_reducible exact LeO.none _)
      | (with_reducible refine LeO.ite ?_ ?_)
      | (with_reducible refine LeO.bind ?_ (fun _ => ?_))
      | exact ih0 _ _ _ _ _ _
      | exact bolterlaw12_Addr.mono _ _ _
      | exact bolterlaw12_bits.mono _ _
      | exact LeO.none _
      | refine LeO.ite ?_ ?_
      | refine LeO.bind ?_ (fun _ => ?_)
theorem bolterlaw12_PrefixHas.mono : ∀ a0 a1 a2 a3 a4 k, LeO (bolterlaw12_PrefixHas.f k a0 a1 a2 a3 a4) (bolterlaw12_PrefixHas.f (k + 1) a0 a1 a2 a3 a4) := by
  intro a0 a1 a2 a3 a4 k
  have ih0 := bolterlaw12_PrefixHas.mono_l k
  unfold bolterlaw12_PrefixHas.f
  repeat' first
      | (with_reducible exact ih0 _ _ _ _ _ _)
      | (with_reducible exact bolterlaw12_Addr.mono _ _ _)
      | (with_reducible exact bolterlaw12_bits.mono _ _)
      | (with_reducible exact LeO.refl _)
      | (with_reducible exact LeO.none _)
      | (with_reducible refine LeO.ite ?_ ?_)
      | (with_reducible refine LeO.bind ?_ (fun _ => ?_))
      | exact ih0 _ _ _ _ _ _
      | exact bolterlaw12_Addr.mono _ _ _
      | exact bolterlaw12_bits.mono _ _
      | exact LeO.none _
      | refine LeO.ite ?_ ?_
      | refine LeO.bind ?_ (fun _ => ?_)
set_option maxHeartbeats 8000000 in
set_option maxRecDepth 100000 in
theorem bolterlaw12_PrefixHas.calls (k : Nat) (a0 : Bool) (A1 : Option Addr) (c1 : Nat) (l1 : List Int) (a2 : Int) (A3 : Option Addr) (c3 : Nat) (l3 : List Int) (a4 : Bool) (r : Bool) (w : World) (hr1 : Kd.C (Kd.int .u8) w A1 l1.length l1) (hc1 : l1.length ≤ c1) (hr3 : Kd.C (Kd.int .u8) w A3 l3.length l3) (hc3 : l3.length ≤ c3) (h : bolterlaw12_PrefixHas.f k a0 l1 a2 l3 a4 = some r) :
    Calls Try.prog 9 #[.bool a0, .slice A1 l1.length c1, .int .u8 a2, .slice A3 l3.length c3, .bool a4] w fun e w' => e = .returned (.bool r) ∧ Below w.heap.size w w' := by
  have hu39 := Try.underlying39
  have HR1 := Aside0.mk hr1
  have HC1 := Aside0.mk hc1
  clear hr1 hc1
  have HR3 := Aside0.mk hr3
  have HC3 := Aside0.mk hc3
  clear hr3 hc3
  have HB := Aside0.mk (Below.refl w.heap.size w)
  have H : ((bolterlaw12_awake.f).bind fun t131 => (if t131 = true then ((bolterlaw12_Addr.f k a0 l1).bind fun t132 => ((bolterlaw12_Addr.f k (a0 != a4) l3).bind fun t133 => (if (wrap64 ((wrap64 (8 * (t132.size : Int))) + 1)) = 0 then (none) else ((prefix_Cut.f t132 (Int.tmod (wrap64 (a2)) (wrap64 ((wrap64 (8 * (t132.size : Int))) + 1)))).bind fun bt134 => (if bt134.2.2 = true then ((prefix_May.f bt134.1 bt134.2.1).bind fun t138 => (if t138 = true then ((prefix_Has.f bt134.1 bt134.2.1 t132).bind fun t139 => (bolterlaw12_PrefixHas.j0 k t132 t133 (Int.tmod (wrap64 (a2)) (wrap64 ((wrap64 (8 * (t132.size : Int))) + 1))) (!t139) bt134.1 bt134.2.1)) else (bolterlaw12_PrefixHas.j0 k t132 t133 (Int.tmod (wrap64 (a2)) (wrap64 ((wrap64 (8 * (t132.size : Int))) + 1))) true bt134.1 bt134.2.1))) else (bolterlaw12_PrefixHas.j0 k t132 t133 (Int.tmod (wrap64 (a2)) (wrap64 ((wrap64 (8 * (t132.size : Int))) + 1))) true bt134.1 bt134.2.1)))))) else (some false))) = some r := h
  clear h
  replace H := Option.bind_eq_some_iff.mp H
  obtain ⟨t131, A60, H⟩ := H
  replace H : (if t131 = true then ((bolterlaw12_Addr.f k a0 l1).bind fun t132 => ((bolterlaw12_Addr.f k (a0 != a4) l3).bind fun t133 => (if (wrap64 ((wrap64 (8 * (t132.size : Int))) + 1)) = 0 then (none) else ((prefix_Cut.f t132 (Int.tmod (wrap64 (a2)) (wrap64 ((wrap64 (8 * (t132.size : Int))) + 1)))).bind fun bt134 => (if bt134.2.2 = true then ((prefix_May.f bt134.1 bt134.2.1).bind fun t138 => (if t138 = true then ((prefix_Has.f bt134.1 bt134.2.1 t132).bind fun t139 => (bolterlaw12_PrefixHas.j0 k t132 t133 (Int.tmod (wrap64 (a2)) (wrap64 ((wrap64 (8 * (t132.size : Int))) + 1))) (!t139) bt134.1 bt134.2.1)) else (bolterlaw12_PrefixHas.j0 k t132 t133 (Int.tmod (wrap64 (a2)) (wrap64 ((wrap64 (8 * (t132.size : Int))) + 1))) true bt134.1 bt134.2.1))) else (bolterlaw12_PrefixHas.j0 k t132 t133 (Int.tmod (wrap64 (a2)) (wrap64 ((wrap64 (8 * (t132.size : Int))) + 1))) true bt134.1 bt134.2.1)))))) else (some false)) = some r := H
  have A6 := Aside0.mk A60
  clear A60
  by_cases c7 : t131 = true
  · subst c7
    have H1 : ((bolterlaw12_Addr.f k a0 l1).bind fun t132 => ((bolterlaw12_Addr.f k (a0 != a4) l3).bind fun t133 => (if (wrap64 ((wrap64 (8 * (t132.size : Int))) + 1)) = 0 then (none) else ((prefix_Cut.f t132 (Int.tmod (wrap64 (a2)) (wrap64 ((wrap64 (8 * (t132.size : Int))) + 1)))).bind fun bt134 => (if bt134.2.2 = true then ((prefix_May.f bt134.1 bt134.2.1).bind fun t138 => (if t138 = true then ((prefix_Has.f bt134.1 bt134.2.1 t132).bind fun t139 => (bolterlaw12_PrefixHas.j0 k t132 t133 (Int.tmod (wrap64 (a2)) (wrap64 ((wrap64 (8 * (t132.size : Int))) + 1))) (!t139) bt134.1 bt134.2.1)) else (bolterlaw12_PrefixHas.j0 k t132 t133 (Int.tmod (wrap64 (a2)) (wrap64 ((wrap64 (8 * (t132.size : Int))) + 1))) true bt134.1 bt134.2.1))) else (bolterlaw12_PrefixHas.j0 k t132 t133 (Int.tmod (wrap64 (a2)) (wrap64 ((wrap64 (8 * (t132.size : Int))) + 1))) true bt134.1 bt134.2.1)))))) = some r := by rw [if_pos rfl] at H; exact H
    clear H
    have H := H1
    clear H1
    replace H := Option.bind_eq_some_iff.mp H
    obtain ⟨t132, A80, H⟩ := H
    replace H : ((bolterlaw12_Addr.f k (a0 != a4) l3).bind fun t133 => (if (wrap64 ((wrap64 (8 * (t132.size : Int))) + 1)) = 0 then (none) else ((prefix_Cut.f t132 (Int.tmod (wrap64 (a2)) (wrap64 ((wrap64 (8 * (t132.size : Int))) + 1)))).bind fun bt134 => (if bt134.2.2 = true then ((prefix_May.f bt134.1 bt134.2.1).bind fun t138 => (if t138 = true then ((prefix_Has.f bt134.1 bt134.2.1 t132).bind fun t139 => (bolterlaw12_PrefixHas.j0 k t132 t133 (Int.tmod (wrap64 (a2)) (wrap64 ((wrap64 (8 * (t132.size : Int))) + 1))) (!t139) bt134.1 bt134.2.1)) else (bolterlaw12_PrefixHas.j0 k t132 t133 (Int.tmod (wrap64 (a2)) (wrap64 ((wrap64 (8 * (t132.size : Int))) + 1))) true bt134.1 bt134.2.1))) else (bolterlaw12_PrefixHas.j0 k t132 t133 (Int.tmod (wrap64 (a2)) (wrap64 ((wrap64 (8 * (t132.size : Int))) + 1))) true bt134.1 bt134.2.1))))) = some r := H
    have A8 := Aside0.mk A80
    clear A80
    replace H := Option.bind_eq_some_iff.mp H
    obtain ⟨t133, A90, H⟩ := H
    replace H : (if (wrap64 ((wrap64 (8 * (t132.size : Int))) + 1)) = 0 then (none) else ((prefix_Cut.f t132 (Int.tmod (wrap64 (a2)) (wrap64 ((wrap64 (8 * (t132.size : Int))) + 1)))).bind fun bt134 => (if bt134.2.2 = true then ((prefix_May.f bt134.1 bt134.2.1).bind fun t138 => (if t138 = true then ((prefix_Has.f bt134.1 bt134.2.1 t132).bind fun t139 => (bolterlaw12_PrefixHas.j0 k t132 t133 (Int.tmod (wrap64 (a2)) (wrap64 ((wrap64 (8 * (t132.size : Int))) + 1))) (!t139) bt134.1 bt134.2.1)) else (bolterlaw12_PrefixHas.j0 k t132 t133 (Int.tmod (wrap64 (a2)) (wrap64 ((wrap64 (8 * (t132.size : Int))) + 1))) true bt134.1 bt134.2.1))) else (bolterlaw12_PrefixHas.j0 k t132 t133 (Int.tmod (wrap64 (a2)) (wrap64 ((wrap64 (8 * (t132.size : Int))) + 1))) true bt134.1 bt134.2.1)))) = some r := H
    have A9 := Aside0.mk A90
    have A9s : Aside0 (bolterlaw12_Addr.f k (!a0 == a4) l3 = some t133) := ⟨A90⟩
    clear A90
    by_cases c10 : (wrap64 ((wrap64 (8 * (t132.size : Int))) + 1)) = 0
    · rw [if_pos c10] at H
      exact absurd H (by simp)
    · rw [if_neg c10] at H
      have c10b0 : ((wrap64 ((wrap64 (8 * (t132.size : Int))) + 1)) == 0) = false := beq_eq_false_iff_ne.mpr c10
      have c10b1 : ((wrap64 ((wrap64 (8 * (t132.size : Int))) + 1)) != 0) = true := bne_iff_ne.mpr c10
      replace H := Option.bind_eq_some_iff.mp H
      obtain ⟨⟨t134, t135, t136⟩, A110, H⟩ := H
      replace H : (if t136 = true then ((prefix_May.f t134 t135).bind fun t138 => (if t138 = true then ((prefix_Has.f t134 t135 t132).bind fun t139 => (bolterlaw12_PrefixHas.j0 k t132 t133 (Int.tmod (wrap64 (a2)) (wrap64 ((wrap64 (8 * (t132.size : Int))) + 1))) (!t139) t134 t135)) else (bolterlaw12_PrefixHas.j0 k t132 t133 (Int.tmod (wrap64 (a2)) (wrap64 ((wrap64 (8 * (t132.size : Int))) + 1))) true t134 t135))) else (bolterlaw12_PrefixHas.j0 k t132 t133 (Int.tmod (wrap64 (a2)) (wrap64 ((wrap64 (8 * (t132.size : Int))) + 1))) true t134 t135)) = some r := H
      have A11 := Aside0.mk A110
      clear A110
      have HC12 := Aside0.mk H
      clear H
      go_enter Try.func9, Try.ntmps9
      go_upto_region 6 with (first | (go_at_call 19; (with_reducible refine (bolterlaw12_awake.calls  true _ A6.out).mono ?_); rintro e w13 ⟨rfl, hb⟩; have n0_ := Aside0.mk (below_step (by repeat (first | (with_reducible first | exact HB.out | apply below_alloc | apply pw_below_drewN | apply below_drew1) | exact HB.out)) hb); clear HB; have HB := n0_; clear n0_; (try clear hb); (try clear hb2); (try clear hk); (try clear hi)) | (go_at_call 20; (with_reducible refine (bolterlaw12_Addr.calls k a0 _ _ l1 t132 _ ?side1 ?side2 A8.out).mono ?_); (case side1 => repeat (first | exact (Kd.C_below HR1.out HB.out) | (with_reducible refine Kd.C_alloc ?_ _) | (with_reducible refine Kd.C_drewN ?_ _) | (with_reducible refine Kd.C_drew ?_))); (case side2 => exact HC1.out); rintro e w14 ⟨rfl, hb⟩; have n0_ := Aside0.mk (below_step (by repeat (first | (with_reducible first | exact HB.out | apply below_alloc | apply pw_below_drewN | apply below_drew1) | exact HB.out)) hb); clear HB; have HB := n0_; clear n0_; (try clear hb); (try clear hb2); (try clear hk); (try clear hi)) | (go_at_call 20; (with_reducible refine (bolterlaw12_Addr.calls k (!a0 == a4) _ _ l3 t133 _ ?side1 ?side2 A9s.out).mono ?_); (case side1 => repeat (first | exact (Kd.C_below HR3.out HB.out) | (with_reducible refine Kd.C_alloc ?_ _) | (with_reducible refine Kd.C_drewN ?_ _) | (with_reducible refine Kd.C_drew ?_))); (case side2 => exact HC3.out); rintro e w15 ⟨rfl, hb⟩; have n0_ := Aside0.mk (below_step (by repeat (first | (with_reducible first | exact HB.out | apply below_alloc | apply pw_below_drewN | apply below_drew1) | exact HB.out)) hb); clear HB; have HB := n0_; clear n0_; (try clear hb); (try clear hb2); (try clear hk); (try clear hi)) | (go_at_call 21; (with_reducible refine (prefix_Cut.calls t132 (Int.tmod (wrap64 (a2)) (wrap64 ((wrap64 (8 * (t132.size : Int))) + 1))) t134 t135 t136 _ A11.out).mono ?_); rintro e w16 ⟨rfl, hb⟩; have n0_ := Aside0.mk (below_step (by repeat (first | (with_reducible first | exact HB.out | apply below_alloc | apply pw_below_drewN | apply below_drew1) | exact HB.out)) hb); clear HB; have HB := n0_; clear n0_; (try clear hb); (try clear hb2); (try clear hk); (try clear hi)) | ((with_reducible refine gate_dst (N := 14) rfl ?_); (try (refine gate_guard (by rfl) ?_; dsimp only)); refine box_event ?hg (N := 14) ?hd (cs := #[.string (⟨#[]⟩ : ByteArray), .int .i64 0]) (t := 39) ?hr ?_; (case hd => rfl); (case hg => rfl); (case hr => first | (go_simp; done) | (go_simp; rfl)); intro gb137 hg w17 hbox hb; have n0_ := Aside0.mk (below_step (by repeat (first | (with_reducible first | exact HB.out | apply below_alloc | apply pw_below_drewN | apply below_drew1) | exact HB.out)) hb); have n1_ := Aside0.mk (hbox); have n2_ := Aside0.mk ((by rw [hg]; exact (below_size (by repeat (first | (with_reducible first | exact HB.out | apply below_alloc | apply pw_below_drewN | apply below_drew1) | exact HB.out))) : w.heap.size ≤ gb137)); have n3_ := Aside0.mk ((by rw [hg]; exact (below_size (by repeat (first | (with_reducible first | exact HB.out | apply below_alloc | apply pw_below_drewN | apply below_drew1) | exact HB.out))) : w.heap.size ≤ gb137)); clear HB; have HB := n0_; have BK137 := n1_; have GW137 := n2_; have GE137 := n3_; clear n0_ n1_ n2_ n3_; clear hb hbox hg; have hcz18_0 : w17.cell? ⟨gb137, 0, none⟩ = some (.string (⟨#[]⟩ : ByteArray)) := (blk_cell BK137.out 0).trans rfl; have hcz18_1 : w17.cell? ⟨gb137, 1, none⟩ = some (.int .i64 0) := (blk_cell BK137.out 1).trans rfl; have hfz18_0 := blk_frozen BK137.out 0; have hfz18_1 := blk_frozen BK137.out 1))
      repeat (go_quiet (first | (go_at_call 19; (with_reducible refine (bolterlaw12_awake.calls  true _ A6.out).mono ?_); rintro e w13 ⟨rfl, hb⟩; have n0_ := Aside0.mk (below_step (by repeat (first | (with_reducible first | exact HB.out | apply below_alloc | apply pw_below_drewN | apply below_drew1) | exact HB.out)) hb); clear HB; have HB := n0_; clear n0_; (try clear hb); (try clear hb2); (try clear hk); (try clear hi)) | (go_at_call 20; (with_reducible refine (bolterlaw12_Addr.calls k a0 _ _ l1 t132 _ ?side1 ?side2 A8.out).mono ?_); (case side1 => repeat (first | exact (Kd.C_below HR1.out HB.out) | (with_reducible refine Kd.C_alloc ?_ _) | (with_reducible refine Kd.C_drewN ?_ _) | (with_reducible refine Kd.C_drew ?_))); (case side2 => exact HC1.out); rintro e w14 ⟨rfl, hb⟩; have n0_ := Aside0.mk (below_step (by repeat (first | (with_reducible first | exact HB.out | apply below_alloc | apply pw_below_drewN | apply below_drew1) | exact HB.out)) hb); clear HB; have HB := n0_; clear n0_; (try clear hb); (try clear hb2); (try clear hk); (try clear hi)) | (go_at_call 20; (with_reducible refine (bolterlaw12_Addr.calls k (!a0 == a4) _ _ l3 t133 _ ?side1 ?side2 A9s.out).mono ?_); (case side1 => repeat (first | exact (Kd.C_below HR3.out HB.out) | (with_reducible refine Kd.C_alloc ?_ _) | (with_reducible refine Kd.C_drewN ?_ _) | (with_reducible refine Kd.C_drew ?_))); (case side2 => exact HC3.out); rintro e w15 ⟨rfl, hb⟩; have n0_ := Aside0.mk (below_step (by repeat (first | (with_reducible first | exact HB.out | apply below_alloc | apply pw_below_drewN | apply below_drew1) | exact HB.out)) hb); clear HB; have HB := n0_; clear n0_; (try clear hb); (try clear hb2); (try clear hk); (try clear hi)) | (go_at_call 21; (with_reducible refine (prefix_Cut.calls t132 (Int.tmod (wrap64 (a2)) (wrap64 ((wrap64 (8 * (t132.size : Int))) + 1))) t134 t135 t136 _ A11.out).mono ?_); rintro e w16 ⟨rfl, hb⟩; have n0_ := Aside0.mk (below_step (by repeat (first | (with_reducible first | exact HB.out | apply below_alloc | apply pw_below_drewN | apply below_drew1) | exact HB.out)) hb); clear HB; have HB := n0_; clear n0_; (try clear hb); (try clear hb2); (try clear hk); (try clear hi)) | ((with_reducible refine gate_dst (N := 14) rfl ?_); (try (refine gate_guard (by rfl) ?_; dsimp only)); refine box_event ?hg (N := 14) ?hd (cs := #[.string (⟨#[]⟩ : ByteArray), .int .i64 0]) (t := 39) ?hr ?_; (case hd => rfl); (case hg => rfl); (case hr => first | (go_simp; done) | (go_simp; rfl)); intro gb137 hg w17 hbox hb; have n0_ := Aside0.mk (below_step (by repeat (first | (with_reducible first | exact HB.out | apply below_alloc | apply pw_below_drewN | apply below_drew1) | exact HB.out)) hb); have n1_ := Aside0.mk (hbox); have n2_ := Aside0.mk ((by rw [hg]; exact (below_size (by repeat (first | (with_reducible first | exact HB.out | apply below_alloc | apply pw_below_drewN | apply below_drew1) | exact HB.out))) : w.heap.size ≤ gb137)); have n3_ := Aside0.mk ((by rw [hg]; exact (below_size (by repeat (first | (with_reducible first | exact HB.out | apply below_alloc | apply pw_below_drewN | apply below_drew1) | exact HB.out))) : w.heap.size ≤ gb137)); clear HB; have HB := n0_; have BK137 := n1_; have GW137 := n2_; have GE137 := n3_; clear n0_ n1_ n2_ n3_; clear hb hbox hg; have hcz18_0 : w17.cell? ⟨gb137, 0, none⟩ = some (.string (⟨#[]⟩ : ByteArray)) := (blk_cell BK137.out 0).trans rfl; have hcz18_1 : w17.cell? ⟨gb137, 1, none⟩ = some (.int .i64 0) := (blk_cell BK137.out 1).trans rfl; have hfz18_0 := blk_frozen BK137.out 0; have hfz18_1 := blk_frozen BK137.out 1)); go_upto_region 6 with (first | (go_at_call 19; (with_reducible refine (bolterlaw12_awake.calls  true _ A6.out).mono ?_); rintro e w13 ⟨rfl, hb⟩; have n0_ := Aside0.mk (below_step (by repeat (first | (with_reducible first | exact HB.out | apply below_alloc | apply pw_below_drewN | apply below_drew1) | exact HB.out)) hb); clear HB; have HB := n0_; clear n0_; (try clear hb); (try clear hb2); (try clear hk); (try clear hi)) | (go_at_call 20; (with_reducible refine (bolterlaw12_Addr.calls k a0 _ _ l1 t132 _ ?side1 ?side2 A8.out).mono ?_); (case side1 => repeat (first | exact (Kd.C_below HR1.out HB.out) | (with_reducible refine Kd.C_alloc ?_ _) | (with_reducible refine Kd.C_drewN ?_ _) | (with_reducible refine Kd.C_drew ?_))); (case side2 => exact HC1.out); rintro e w14 ⟨rfl, hb⟩; have n0_ := Aside0.mk (below_step (by repeat (first | (with_reducible first | exact HB.out | apply below_alloc | apply pw_below_drewN | apply below_drew1) | exact HB.out)) hb); clear HB; have HB := n0_; clear n0_; (try clear hb); (try clear hb2); (try clear hk); (try clear hi)) | (go_at_call 20; (with_reducible refine (bolterlaw12_Addr.calls k (!a0 == a4) _ _ l3 t133 _ ?side1 ?side2 A9s.out).mono ?_); (case side1 => repeat (first | exact (Kd.C_below HR3.out HB.out) | (with_reducible refine Kd.C_alloc ?_ _) | (with_reducible refine Kd.C_drewN ?_ _) | (with_reducible refine Kd.C_drew ?_))); (case side2 => exact HC3.out); rintro e w15 ⟨rfl, hb⟩; have n0_ := Aside0.mk (below_step (by repeat (first | (with_reducible first | exact HB.out | apply below_alloc | apply pw_below_drewN | apply below_drew1) | exact HB.out)) hb); clear HB; have HB := n0_; clear n0_; (try clear hb); (try clear hb2); (try clear hk); (try clear hi)) | (go_at_call 21; (with_reducible refine (prefix_Cut.calls t132 (Int.tmod (wrap64 (a2)) (wrap64 ((wrap64 (8 * (t132.size : Int))) + 1))) t134 t135 t136 _ A11.out).mono ?_); rintro e w16 ⟨rfl, hb⟩; have n0_ := Aside0.mk (below_step (by repeat (first | (with_reducible first | exact HB.out | apply below_alloc | apply pw_below_drewN | apply below_drew1) | exact HB.out)) hb); clear HB; have HB := n0_; clear n0_; (try clear hb); (try clear hb2); (try clear hk); (try clear hi)) | ((with_reducible refine gate_dst (N := 14) rfl ?_); (try (refine gate_guard (by rfl) ?_; dsimp only)); refine box_event ?hg (N := 14) ?hd (cs := #[.string (⟨#[]⟩ : ByteArray), .int .i64 0]) (t := 39) ?hr ?_; (case hd => rfl); (case hg => rfl); (case hr => first | (go_simp; done) | (go_simp; rfl)); intro gb137 hg w17 hbox hb; have n0_ := Aside0.mk (below_step (by repeat (first | (with_reducible first | exact HB.out | apply below_alloc | apply pw_below_drewN | apply below_drew1) | exact HB.out)) hb); have n1_ := Aside0.mk (hbox); have n2_ := Aside0.mk ((by rw [hg]; exact (below_size (by repeat (first | (with_reducible first | exact HB.out | apply below_alloc | apply pw_below_drewN | apply below_drew1) | exact HB.out))) : w.heap.size ≤ gb137)); have n3_ := Aside0.mk ((by rw [hg]; exact (below_size (by repeat (first | (with_reducible first | exact HB.out | apply below_alloc | apply pw_below_drewN | apply below_drew1) | exact HB.out))) : w.heap.size ≤ gb137)); clear HB; have HB := n0_; have BK137 := n1_; have GW137 := n2_; have GE137 := n3_; clear n0_ n1_ n2_ n3_; clear hb hbox hg; have hcz18_0 : w17.cell? ⟨gb137, 0, none⟩ = some (.string (⟨#[]⟩ : ByteArray)) := (blk_cell BK137.out 0).trans rfl; have hcz18_1 : w17.cell? ⟨gb137, 1, none⟩ = some (.int .i64 0) := (blk_cell BK137.out 1).trans rfl; have hfz18_0 := blk_frozen BK137.out 0; have hfz18_1 := blk_frozen BK137.out 1)))
      (try simp only [Act.put, List.setIfInBounds_toArray, List.set_cons_zero, List.set_cons_succ])
      go_cut [52] (fun v52 wc => ∃ (kq : Nat) (x52_11 : Bool), v52 = .bool x52_11 ∧ Aside0 (bolterlaw12_PrefixHas.j0 kq t132 t133 (Int.tmod (wrap64 (a2)) (wrap64 ((wrap64 (8 * (t132.size : Int))) + 1))) x52_11 t134 t135 = some r) ∧ Aside0 (kq ≤ k) ∧ Aside0 (wc.heap[gb137]? = some (.cells #[.string t134, .int .i64 t135] 39 (0, 0))) ∧ Aside0 (Below w.heap.size w wc))
      case first =>
        have H := HC12.out
        clear HC12
        by_cases c19 : t136 = true
        · subst c19
          have H1 : ((prefix_May.f t134 t135).bind fun t138 => (if t138 = true then ((prefix_Has.f t134 t135 t132).bind fun t139 => (bolterlaw12_PrefixHas.j0 k t132 t133 (Int.tmod (wrap64 (a2)) (wrap64 ((wrap64 (8 * (t132.size : Int))) + 1))) (!t139) t134 t135)) else (bolterlaw12_PrefixHas.j0 k t132 t133 (Int.tmod (wrap64 (a2)) (wrap64 ((wrap64 (8 * (t132.size : Int))) + 1))) true t134 t135))) = some r := by rw [if_pos rfl] at H; exact H
          clear H
          have H := H1
          clear H1
          replace H := Option.bind_eq_some_iff.mp H
          obtain ⟨t138, A200, H⟩ := H
          replace H : (if t138 = true then ((prefix_Has.f t134 t135 t132).bind fun t139 => (bolterlaw12_PrefixHas.j0 k t132 t133 (Int.tmod (wrap64 (a2)) (wrap64 ((wrap64 (8 * (t132.size : Int))) + 1))) (!t139) t134 t135)) else (bolterlaw12_PrefixHas.j0 k t132 t133 (Int.tmod (wrap64 (a2)) (wrap64 ((wrap64 (8 * (t132.size : Int))) + 1))) true t134 t135)) = some r := H
          have A20 := Aside0.mk A200
          clear A200
          by_cases c21 : t138 = true
          · subst c21
            have H1 : ((prefix_Has.f t134 t135 t132).bind fun t139 => (bolterlaw12_PrefixHas.j0 k t132 t133 (Int.tmod (wrap64 (a2)) (wrap64 ((wrap64 (8 * (t132.size : Int))) + 1))) (!t139) t134 t135)) = some r := by rw [if_pos rfl] at H; exact H
            clear H
            have H := H1
            clear H1
            replace H := Option.bind_eq_some_iff.mp H
            obtain ⟨t139, A220, H⟩ := H
            replace H : (bolterlaw12_PrefixHas.j0 k t132 t133 (Int.tmod (wrap64 (a2)) (wrap64 ((wrap64 (8 * (t132.size : Int))) + 1))) (!t139) t134 t135) = some r := H
            have A22 := Aside0.mk A220
            clear A220
            have H' := Aside0.mk H
            clear H
            have hcz23_0 : w17.cell? ⟨gb137, 0, none⟩ = some (.string (⟨#[]⟩ : ByteArray)) := (blk_cell BK137.out 0).trans rfl
            have hcz23_1 : w17.cell? ⟨gb137, 1, none⟩ = some (.int .i64 0) := (blk_cell BK137.out 1).trans rfl
            have hfz23_0 := blk_frozen BK137.out 0
            have hfz23_1 := blk_frozen BK137.out 1
            go_wp2_with (first | (go_at_call 24; (with_reducible refine (prefix_May.calls t134 t135 true _ A20.out).mono ?_); rintro e w24 ⟨rfl, hb⟩; have n0_ := Aside0.mk (blk_below (g := gb137) (o := .cells #[.string t134, .int .i64 t135] 39 (0, 0)) (by (with_reducible repeat (first | refine blk_drewN ?_ _ | refine blk_drew ?_ | refine blk_alloc ?_ _)); refine blk_put (cs := #[.string t134, .int .i64 0]) ?_ 1 _ rfl; (with_reducible repeat (first | refine blk_drewN ?_ _ | refine blk_drew ?_ | refine blk_alloc ?_ _)); refine blk_put (cs := #[.string (⟨#[]⟩ : ByteArray), .int .i64 0]) ?_ 0 _ rfl; (with_reducible repeat (first | refine blk_drewN ?_ _ | refine blk_drew ?_ | refine blk_alloc ?_ _)); exact BK137.out) hb); have n1_ := Aside0.mk (below_step (by repeat (first | (with_reducible first | exact HB.out | apply below_alloc | apply pw_below_drewN | apply below_drew1 | refine below_set ?_ GE137.out) | exact HB.out)) hb); clear BK137; clear HB; have BK137 := n0_; have HB := n1_; clear n0_ n1_; (try clear hb); (try clear hb2); (try clear hk); (try clear hi); have hcz25_0 : w24.cell? ⟨gb137, 0, none⟩ = some (.string t134) := (blk_cell BK137.out 0).trans rfl; have hcz25_1 : w24.cell? ⟨gb137, 1, none⟩ = some (.int .i64 t135) := (blk_cell BK137.out 1).trans rfl; have hfz25_0 := blk_frozen BK137.out 0; have hfz25_1 := blk_frozen BK137.out 1) | (go_at_call 25; (with_reducible refine (prefix_Has.calls t134 t135 t132 t139 _ A22.out).mono ?_); rintro e w26 ⟨rfl, hb⟩; have n0_ := Aside0.mk (blk_below (g := gb137) (o := .cells #[.string t134, .int .i64 t135] 39 (0, 0)) (by (with_reducible repeat (first | refine blk_drewN ?_ _ | refine blk_drew ?_ | refine blk_alloc ?_ _)); exact BK137.out) hb); have n1_ := Aside0.mk (below_step (by repeat (first | (with_reducible first | exact HB.out | apply below_alloc | apply pw_below_drewN | apply below_drew1 | refine below_set ?_ GE137.out) | exact HB.out)) hb); clear BK137; clear HB; have BK137 := n0_; have HB := n1_; clear n0_ n1_; (try clear hb); (try clear hb2); (try clear hk); (try clear hi)))
            repeat (go_quiet (first | (go_at_call 24; (with_reducible refine (prefix_May.calls t134 t135 true _ A20.out).mono ?_); rintro e w24 ⟨rfl, hb⟩; have n0_ := Aside0.mk (blk_below (g := gb137) (o := .cells #[.string t134, .int .i64 t135] 39 (0, 0)) (by (with_reducible repeat (first | refine blk_drewN ?_ _ | refine blk_drew ?_ | refine blk_alloc ?_ _)); refine blk_put (cs := #[.string t134, .int .i64 0]) ?_ 1 _ rfl; (with_reducible repeat (first | refine blk_drewN ?_ _ | refine blk_drew ?_ | refine blk_alloc ?_ _)); refine blk_put (cs := #[.string (⟨#[]⟩ : ByteArray), .int .i64 0]) ?_ 0 _ rfl; (with_reducible repeat (first | refine blk_drewN ?_ _ | refine blk_drew ?_ | refine blk_alloc ?_ _)); exact BK137.out) hb); have n1_ := Aside0.mk (below_step (by repeat (first | (with_reducible first | exact HB.out | apply below_alloc | apply pw_below_drewN | apply below_drew1 | refine below_set ?_ GE137.out) | exact HB.out)) hb); clear BK137; clear HB; have BK137 := n0_; have HB := n1_; clear n0_ n1_; (try clear hb); (try clear hb2); (try clear hk); (try clear hi); have hcz25_0 : w24.cell? ⟨gb137, 0, none⟩ = some (.string t134) := (blk_cell BK137.out 0).trans rfl; have hcz25_1 : w24.cell? ⟨gb137, 1, none⟩ = some (.int .i64 t135) := (blk_cell BK137.out 1).trans rfl; have hfz25_0 := blk_frozen BK137.out 0; have hfz25_1 := blk_frozen BK137.out 1) | (go_at_call 25; (with_reducible refine (prefix_Has.calls t134 t135 t132 t139 _ A22.out).mono ?_); rintro e w26 ⟨rfl, hb⟩; have n0_ := Aside0.mk (blk_below (g := gb137) (o := .cells #[.string t134, .int .i64 t135] 39 (0, 0)) (by (with_reducible repeat (first | refine blk_drewN ?_ _ | refine blk_drew ?_ | refine blk_alloc ?_ _)); exact BK137.out) hb); have n1_ := Aside0.mk (below_step (by repeat (first | (with_reducible first | exact HB.out | apply below_alloc | apply pw_below_drewN | apply below_drew1 | refine below_set ?_ GE137.out) | exact HB.out)) hb); clear BK137; clear HB; have BK137 := n0_; have HB := n1_; clear n0_ n1_; (try clear hb); (try clear hb2); (try clear hk); (try clear hi))); try go_wp2_with (first | (go_at_call 24; (with_reducible refine (prefix_May.calls t134 t135 true _ A20.out).mono ?_); rintro e w24 ⟨rfl, hb⟩; have n0_ := Aside0.mk (blk_below (g := gb137) (o := .cells #[.string t134, .int .i64 t135] 39 (0, 0)) (by (with_reducible repeat (first | refine blk_drewN ?_ _ | refine blk_drew ?_ | refine blk_alloc ?_ _)); refine blk_put (cs := #[.string t134, .int .i64 0]) ?_ 1 _ rfl; (with_reducible repeat (first | refine blk_drewN ?_ _ | refine blk_drew ?_ | refine blk_alloc ?_ _)); refine blk_put (cs := #[.string (⟨#[]⟩ : ByteArray), .int .i64 0]) ?_ 0 _ rfl; (with_reducible repeat (first | refine blk_drewN ?_ _ | refine blk_drew ?_ | refine blk_alloc ?_ _)); exact BK137.out) hb); have n1_ := Aside0.mk (below_step (by repeat (first | (with_reducible first | exact HB.out | apply below_alloc | apply pw_below_drewN | apply below_drew1 | refine below_set ?_ GE137.out) | exact HB.out)) hb); clear BK137; clear HB; have BK137 := n0_; have HB := n1_; clear n0_ n1_; (try clear hb); (try clear hb2); (try clear hk); (try clear hi); have hcz25_0 : w24.cell? ⟨gb137, 0, none⟩ = some (.string t134) := (blk_cell BK137.out 0).trans rfl; have hcz25_1 : w24.cell? ⟨gb137, 1, none⟩ = some (.int .i64 t135) := (blk_cell BK137.out 1).trans rfl; have hfz25_0 := blk_frozen BK137.out 0; have hfz25_1 := blk_frozen BK137.out 1) | (go_at_call 25; (with_reducible refine (prefix_Has.calls t134 t135 t132 t139 _ A22.out).mono ?_); rintro e w26 ⟨rfl, hb⟩; have n0_ := Aside0.mk (blk_below (g := gb137) (o := .cells #[.string t134, .int .i64 t135] 39 (0, 0)) (by (with_reducible repeat (first | refine blk_drewN ?_ _ | refine blk_drew ?_ | refine blk_alloc ?_ _)); exact BK137.out) hb); have n1_ := Aside0.mk (below_step (by repeat (first | (with_reducible first | exact HB.out | apply below_alloc | apply pw_below_drewN | apply below_drew1 | refine below_set ?_ GE137.out) | exact HB.out)) hb); clear BK137; clear HB; have BK137 := n0_; have HB := n1_; clear n0_ n1_; (try clear hb); (try clear hb2); (try clear hk); (try clear hi))))
            go_meet
            case rel => exact ⟨_, (!t139), (by first | rfl | (simp; done) | (simp [*]; done)), H', ⟨by first | omega | exact Nat.le_refl _⟩, ⟨by (with_reducible repeat (first | refine blk_drewN ?_ _ | refine blk_drew ?_ | refine blk_alloc ?_ _)); exact BK137.out⟩, ⟨by repeat (first | (with_reducible first | exact HB.out | apply below_alloc | apply pw_below_drewN | apply below_drew1 | refine below_set ?_ GE137.out) | exact HB.out)⟩⟩
          · replace c21 := Bool.eq_false_iff.mpr c21
            subst c21
            have H1 : (bolterlaw12_PrefixHas.j0 k t132 t133 (Int.tmod (wrap64 (a2)) (wrap64 ((wrap64 (8 * (t132.size : Int))) + 1))) true t134 t135) = some r := by rw [if_neg (show ¬ (false = true) by decide)] at H; exact H
            clear H
            have H := H1
            clear H1
            have H' := Aside0.mk H
            clear H
            have hcz27_0 : w17.cell? ⟨gb137, 0, none⟩ = some (.string (⟨#[]⟩ : ByteArray)) := (blk_cell BK137.out 0).trans rfl
            have hcz27_1 : w17.cell? ⟨gb137, 1, none⟩ = some (.int .i64 0) := (blk_cell BK137.out 1).trans rfl
            have hfz27_0 := blk_frozen BK137.out 0
            have hfz27_1 := blk_frozen BK137.out 1
            go_wp2_with (first | (go_at_call 24; (with_reducible refine (prefix_May.calls t134 t135 false _ A20.out).mono ?_); rintro e w28 ⟨rfl, hb⟩; have n0_ := Aside0.mk (blk_below (g := gb137) (o := .cells #[.string t134, .int .i64 t135] 39 (0, 0)) (by (with_reducible repeat (first | refine blk_drewN ?_ _ | refine blk_drew ?_ | refine blk_alloc ?_ _)); refine blk_put (cs := #[.string t134, .int .i64 0]) ?_ 1 _ rfl; (with_reducible repeat (first | refine blk_drewN ?_ _ | refine blk_drew ?_ | refine blk_alloc ?_ _)); refine blk_put (cs := #[.string (⟨#[]⟩ : ByteArray), .int .i64 0]) ?_ 0 _ rfl; (with_reducible repeat (first | refine blk_drewN ?_ _ | refine blk_drew ?_ | refine blk_alloc ?_ _)); exact BK137.out) hb); have n1_ := Aside0.mk (below_step (by repeat (first | (with_reducible first | exact HB.out | apply below_alloc | apply pw_below_drewN | apply below_drew1 | refine below_set ?_ GE137.out) | exact HB.out)) hb); clear BK137; clear HB; have BK137 := n0_; have HB := n1_; clear n0_ n1_; (try clear hb); (try clear hb2); (try clear hk); (try clear hi)))
            repeat (go_quiet (first | (go_at_call 24; (with_reducible refine (prefix_May.calls t134 t135 false _ A20.out).mono ?_); rintro e w28 ⟨rfl, hb⟩; have n0_ := Aside0.mk (blk_below (g := gb137) (o := .cells #[.string t134, .int .i64 t135] 39 (0, 0)) (by (with_reducible repeat (first | refine blk_drewN ?_ _ | refine blk_drew ?_ | refine blk_alloc ?_ _)); refine blk_put (cs := #[.string t134, .int .i64 0]) ?_ 1 _ rfl; (with_reducible repeat (first | refine blk_drewN ?_ _ | refine blk_drew ?_ | refine blk_alloc ?_ _)); refine blk_put (cs := #[.string (⟨#[]⟩ : ByteArray), .int .i64 0]) ?_ 0 _ rfl; (with_reducible repeat (first | refine blk_drewN ?_ _ | refine blk_drew ?_ | refine blk_alloc ?_ _)); exact BK137.out) hb); have n1_ := Aside0.mk (below_step (by repeat (first | (with_reducible first | exact HB.out | apply below_alloc | apply pw_below_drewN | apply below_drew1 | refine below_set ?_ GE137.out) | exact HB.out)) hb); clear BK137; clear HB; have BK137 := n0_; have HB := n1_; clear n0_ n1_; (try clear hb); (try clear hb2); (try clear hk); (try clear hi))); try go_wp2_with (first | (go_at_call 24; (with_reducible refine (prefix_May.calls t134 t135 false _ A20.out).mono ?_); rintro e w28 ⟨rfl, hb⟩; have n0_ := Aside0.mk (blk_below (g := gb137) (o := .cells #[.string t134, .int .i64 t135] 39 (0, 0)) (by (with_reducible repeat (first | refine blk_drewN ?_ _ | refine blk_drew ?_ | refine blk_alloc ?_ _)); refine blk_put (cs := #[.string t134, .int .i64 0]) ?_ 1 _ rfl; (with_reducible repeat (first | refine blk_drewN ?_ _ | refine blk_drew ?_ | refine blk_alloc ?_ _)); refine blk_put (cs := #[.string (⟨#[]⟩ : ByteArray), .int .i64 0]) ?_ 0 _ rfl; (with_reducible repeat (first | refine blk_drewN ?_ _ | refine blk_drew ?_ | refine blk_alloc ?_ _)); exact BK137.out) hb); have n1_ := Aside0.mk (below_step (by repeat (first | (with_reducible first | exact HB.out | apply below_alloc | apply pw_below_drewN | apply below_drew1 | refine below_set ?_ GE137.out) | exact HB.out)) hb); clear BK137; clear HB; have BK137 := n0_; have HB := n1_; clear n0_ n1_; (try clear hb); (try clear hb2); (try clear hk); (try clear hi))))
            go_meet
            case rel => exact ⟨_, (true), (by first | rfl | (simp; done) | (simp [*]; done)), H', ⟨by first | omega | exact Nat.le_refl _⟩, ⟨by (with_reducible repeat (first | refine blk_drewN ?_ _ | refine blk_drew ?_ | refine blk_alloc ?_ _)); exact BK137.out⟩, ⟨by repeat (first | (with_reducible first | exact HB.out | apply below_alloc | apply pw_below_drewN | apply below_drew1 | refine below_set ?_ GE137.out) | exact HB.out)⟩⟩
        · replace c19 := Bool.eq_false_iff.mpr c19
          subst c19
          have H1 : (bolterlaw12_PrefixHas.j0 k t132 t133 (Int.tmod (wrap64 (a2)) (wrap64 ((wrap64 (8 * (t132.size : Int))) + 1))) true t134 t135) = some r := by rw [if_neg (show ¬ (false = true) by decide)] at H; exact H
          clear H
          have H := H1
          clear H1
          have H' := Aside0.mk H
          clear H
          go_wp2
          repeat (go_quiet (fail); try go_wp2)
          go_meet
          case rel => exact ⟨_, (true), (by first | rfl | (simp; done) | (simp [*]; done)), H', ⟨by first | omega | exact Nat.le_refl _⟩, ⟨by (with_reducible repeat (first | refine blk_drewN ?_ _ | refine blk_drew ?_ | refine blk_alloc ?_ _)); refine blk_put (cs := #[.string t134, .int .i64 0]) ?_ 1 _ rfl; (with_reducible repeat (first | refine blk_drewN ?_ _ | refine blk_drew ?_ | refine blk_alloc ?_ _)); refine blk_put (cs := #[.string (⟨#[]⟩ : ByteArray), .int .i64 0]) ?_ 0 _ rfl; (with_reducible repeat (first | refine blk_drewN ?_ _ | refine blk_drew ?_ | refine blk_alloc ?_ _)); exact BK137.out⟩, ⟨by repeat (first | (with_reducible first | exact HB.out | apply below_alloc | apply pw_below_drewN | apply below_drew1 | refine below_set ?_ GE137.out) | exact HB.out)⟩⟩
      case rest =>
        clear HC12
        try clear c1
        try clear c2
        try clear p2
        try clear c3
        try clear p6
        try clear c7
        try clear c9
        try clear c10
        try clear c10b0
        try clear c10b1
        try clear c19
        try clear c21
        try clear hcz18_0
        try clear hcz18_1
        try clear hcz23_0
        try clear hcz23_1
        try clear hcz25_0
        try clear hcz25_1
        try clear hcz27_0
        try clear hcz27_1
        try clear hfz18_0
        try clear hfz18_1
        try clear hfz23_0
        try clear hfz23_1
        try clear hfz25_0
        try clear hfz25_1
        try clear hfz27_0
        try clear hfz27_1
        obtain ⟨kq, x52_11, rfl, HA, HJ11, BK137, HB⟩ := hcut
        cases kq with
        | zero => exact absurd HA.out (by simp [bolterlaw12_PrefixHas.j0])
        | succ kj11 =>
          have H := HA.out
          clear HA
          simp only [bolterlaw12_PrefixHas.j0] at H
          by_cases c29 : x52_11 = true
          · subst c29
            have H1 : (some false) = some r := by rw [if_pos rfl] at H; exact H
            clear H
            have H := H1
            clear H1
            obtain rfl := Option.some.inj H
            go_wp2
            repeat (go_quiet (fail); try go_wp2)
            go_ret
            exact ⟨by first | rfl | (simp [errW_none, errW_some] <;> rfl) | (simp [*, errW_none, errW_some] <;> rfl), by repeat (first | (with_reducible first | exact HB.out | apply below_alloc | apply pw_below_drewN | apply below_drew1 | refine below_set ?_ GE137.out) | exact HB.out)⟩
          · replace c29 := Bool.eq_false_iff.mpr c29
            subst c29
            have H1 : (if (t132.size : Int) = (t133.size : Int) then ((bolterlaw12_bits.f kj11 t132).bind fun t140 => (if 0 ≤ (Int.tmod (wrap64 (a2)) (wrap64 ((wrap64 (8 * (t132.size : Int))) + 1))) then (if (Int.tmod (wrap64 (a2)) (wrap64 ((wrap64 (8 * (t132.size : Int))) + 1))) ≤ (t140.size : Int) then ((bolterlaw12_bits.f kj11 t133).bind fun t141 => (if 0 ≤ (mn (Int.tmod (wrap64 (a2)) (wrap64 ((wrap64 (8 * (t132.size : Int))) + 1))) (wrap64 (8 * (t133.size : Int)))) then (if (mn (Int.tmod (wrap64 (a2)) (wrap64 ((wrap64 (8 * (t132.size : Int))) + 1))) (wrap64 (8 * (t133.size : Int)))) ≤ (t141.size : Int) then ((prefix_Has.f t134 t135 t133).bind fun t142 => (if (t142 == ((t140.extract 0 ((Int.tmod (wrap64 (a2)) (wrap64 ((wrap64 (8 * (t132.size : Int))) + 1))) : Int).toNat).toList == (t141.extract 0 ((mn (Int.tmod (wrap64 (a2)) (wrap64 ((wrap64 (8 * (t132.size : Int))) + 1))) (wrap64 (8 * (t133.size : Int)))) : Int).toNat).toList)) = true then (if t132.size + 1 ≤ 9223372036854775807 then ((prefix_Has.f t134 t135 (t132 ++ (⟨#[120]⟩ : ByteArray))).bind fun t143 => (some (!t143))) else (none)) else (some false))) else (none)) else (none))) else (none)) else (none))) else ((prefix_Has.f t134 t135 t133).bind fun t144 => (if (t144 == false) = true then (if t132.size + 1 ≤ 9223372036854775807 then ((prefix_Has.f t134 t135 (t132 ++ (⟨#[120]⟩ : ByteArray))).bind fun t145 => (some (!t145))) else (none)) else (some false)))) = some r := by rw [if_neg (show ¬ (false = true) by decide)] at H; exact H
            clear H
            have H := H1
            clear H1
            by_cases c30 : (t132.size : Int) = (t133.size : Int)
            · rw [if_pos c30] at H
              have c30b0 : ((t132.size : Int) == (t133.size : Int)) = true := beq_iff_eq.mpr c30
              have c30b1 : ((t132.size : Int) != (t133.size : Int)) = false := bne_eq_false_iff_eq.mpr c30
              have c30b2 : (t132.size == t133.size) = true := by first | simpa using c30 | (simp at c30 ⊢; omega)
              clear c30
              replace H := Option.bind_eq_some_iff.mp H
              obtain ⟨t140, A310, H⟩ := H
              replace H : (if 0 ≤ (Int.tmod (wrap64 (a2)) (wrap64 ((wrap64 (8 * (t132.size : Int))) + 1))) then (if (Int.tmod (wrap64 (a2)) (wrap64 ((wrap64 (8 * (t132.size : Int))) + 1))) ≤ (t140.size : Int) then ((bolterlaw12_bits.f kj11 t133).bind fun t141 => (if 0 ≤ (mn (Int.tmod (wrap64 (a2)) (wrap64 ((wrap64 (8 * (t132.size : Int))) + 1))) (wrap64 (8 * (t133.size : Int)))) then (if (mn (Int.tmod (wrap64 (a2)) (wrap64 ((wrap64 (8 * (t132.size : Int))) + 1))) (wrap64 (8 * (t133.size : Int)))) ≤ (t141.size : Int) then ((prefix_Has.f t134 t135 t133).bind fun t142 => (if (t142 == ((t140.extract 0 ((Int.tmod (wrap64 (a2)) (wrap64 ((wrap64 (8 * (t132.size : Int))) + 1))) : Int).toNat).toList == (t141.extract 0 ((mn (Int.tmod (wrap64 (a2)) (wrap64 ((wrap64 (8 * (t132.size : Int))) + 1))) (wrap64 (8 * (t133.size : Int)))) : Int).toNat).toList)) = true then (if t132.size + 1 ≤ 9223372036854775807 then ((prefix_Has.f t134 t135 (t132 ++ (⟨#[120]⟩ : ByteArray))).bind fun t143 => (some (!t143))) else (none)) else (some false))) else (none)) else (none))) else (none)) else (none)) = some r := H
              have A31 := Aside0.mk A310
              clear A310
              obtain ⟨ji32, hji32⟩ : ∃ j_ : Int, (Int.tmod (wrap64 (a2)) (wrap64 ((wrap64 (8 * (t132.size : Int))) + 1))) = j_ := ⟨_, rfl⟩
              replace H : (if 0 ≤ (ji32) then (if (ji32) ≤ (t140.size : Int) then ((bolterlaw12_bits.f kj11 t133).bind fun t141 => (if 0 ≤ (mn (ji32) (wrap64 (8 * (t133.size : Int)))) then (if (mn (ji32) (wrap64 (8 * (t133.size : Int)))) ≤ (t141.size : Int) then ((prefix_Has.f t134 t135 t133).bind fun t142 => (if (t142 == ((t140.extract 0 ((ji32) : Int).toNat).toList == (t141.extract 0 ((mn (ji32) (wrap64 (8 * (t133.size : Int)))) : Int).toNat).toList)) = true then (if t132.size + 1 ≤ 9223372036854775807 then ((prefix_Has.f t134 t135 (t132 ++ (⟨#[120]⟩ : ByteArray))).bind fun t143 => (some (!t143))) else (none)) else (some false))) else (none)) else (none))) else (none)) else (none)) = some r := by first | (rw [hji32] at H; exact H) | (simp only [hji32] at H ⊢; exact H)
              (try rw [hji32] at A31)
              by_cases c33 : 0 ≤ (ji32)
              · rw [if_pos c33] at H
                have c33b0 := eq_true c33
                have c33b1 : decide (0 ≤ (ji32)) = true := decide_eq_true c33
                clear c33
                by_cases c34 : (ji32) ≤ (t140.size : Int)
                · rw [if_pos c34] at H
                  have c34b0 := eq_true c34
                  have c34b1 : decide ((ji32) ≤ (t140.size : Int)) = true := decide_eq_true c34
                  clear c34
                  replace H := Option.bind_eq_some_iff.mp H
                  obtain ⟨t141, A350, H⟩ := H
                  replace H : (if 0 ≤ (mn (ji32) (wrap64 (8 * (t133.size : Int)))) then (if (mn (ji32) (wrap64 (8 * (t133.size : Int)))) ≤ (t141.size : Int) then ((prefix_Has.f t134 t135 t133).bind fun t142 => (if (t142 == ((t140.extract 0 ((ji32) : Int).toNat).toList == (t141.extract 0 ((mn (ji32) (wrap64 (8 * (t133.size : Int)))) : Int).toNat).toList)) = true then (if t132.size + 1 ≤ 9223372036854775807 then ((prefix_Has.f t134 t135 (t132 ++ (⟨#[120]⟩ : ByteArray))).bind fun t143 => (some (!t143))) else (none)) else (some false))) else (none)) else (none)) = some r := H
                  have A35 := Aside0.mk A350
                  clear A350
                  obtain ⟨ji36, hji36⟩ : ∃ j_ : Int, (mn (ji32) (wrap64 (8 * (t133.size : Int)))) = j_ := ⟨_, rfl⟩
                  replace H : (if 0 ≤ (ji36) then (if (ji36) ≤ (t141.size : Int) then ((prefix_Has.f t134 t135 t133).bind fun t142 => (if (t142 == ((t140.extract 0 ((ji32) : Int).toNat).toList == (t141.extract 0 ((ji36) : Int).toNat).toList)) = true then (if t132.size + 1 ≤ 9223372036854775807 then ((prefix_Has.f t134 t135 (t132 ++ (⟨#[120]⟩ : ByteArray))).bind fun t143 => (some (!t143))) else (none)) else (some false))) else (none)) else (none)) = some r := by first | (rw [hji36] at H; exact H) | (simp only [hji36] at H ⊢; exact H)
                  have hji36v : (if IntKind.i64.wrap (8 * (t133.size : Int)) < ji32 then IntKind.i64.wrap (8 * (t133.size : Int)) else ji32) = ji36 := by rw [i64_w]; exact hji36
                  (try rw [hji36] at A31)
                  (try rw [hji36] at A35)
                  have hji36_ : (if (wrap64 (8 * (t133.size : Int))) < (ji32) then (wrap64 (8 * (t133.size : Int))) else (ji32)) = ji36 := hji36
                  by_cases c37 : 0 ≤ (ji36)
                  · rw [if_pos c37] at H
                    have c37b0 := eq_true c37
                    have c37b1 : decide (0 ≤ (ji36)) = true := decide_eq_true c37
                    clear c37
                    by_cases c38 : (ji36) ≤ (t141.size : Int)
                    · rw [if_pos c38] at H
                      have c38b0 := eq_true c38
                      have c38b1 : decide ((ji36) ≤ (t141.size : Int)) = true := decide_eq_true c38
                      clear c38
                      replace H := Option.bind_eq_some_iff.mp H
                      obtain ⟨t142, A390, H⟩ := H
                      replace H : (if (t142 == ((t140.extract 0 ((ji32) : Int).toNat).toList == (t141.extract 0 ((ji36) : Int).toNat).toList)) = true then (if t132.size + 1 ≤ 9223372036854775807 then ((prefix_Has.f t134 t135 (t132 ++ (⟨#[120]⟩ : ByteArray))).bind fun t143 => (some (!t143))) else (none)) else (some false)) = some r := H
                      have A39 := Aside0.mk A390
                      clear A390
                      by_cases c40 : (t142 == ((t140.extract 0 ((ji32) : Int).toNat).toList == (t141.extract 0 ((ji36) : Int).toNat).toList)) = true
                      · rw [if_pos c40] at H
                        have c40b0 : (t142 == ((t140.extract 0 ((ji32) : Int).toNat).toList == (t141.extract 0 ((ji36) : Int).toNat).toList)) = true := c40
                        (try (have c40b1 : decide (t142 = ((t140.extract 0 ((ji32) : Int).toNat).toList == (t141.extract 0 ((ji36) : Int).toNat).toList)) = true := by simpa using c40))
                        (try (have c40b2 : (t142 == ((t140.extract 0 ((ji32) : Int).toNat).toList == (t141.extract 0 ((ji36) : Int).toNat).toList)) = true := by simpa using c40))
                        clear c40
                        by_cases c41 : t132.size + 1 ≤ 9223372036854775807
                        · rw [if_pos c41] at H
                          have c41b0 := eq_true c41
                          have c41b1 : decide (t132.size + 1 ≤ 9223372036854775807) = true := decide_eq_true c41
                          try have c41b2 : (9223372036854775807 < t132.size + 1) = False := eq_false (Nat.not_lt.2 c41)
                          replace H := Option.bind_eq_some_iff.mp H
                          obtain ⟨t143, A420, H⟩ := H
                          replace H : (some (!t143)) = some r := H
                          have A42 := Aside0.mk A420
                          clear A420
                          obtain rfl := Option.some.inj H
                          go_wp2_with (first | (go_at_call 23; (with_reducible refine (bolterlaw12_bits.calls kj11 t132 t140 _ A31.out).mono ?_); rintro e w' ⟨rfl, ⟨nd, rfl⟩⟩; (try first | exact ⟨rfl, _, World.drewN_drewN _ _ _⟩ | exact ⟨rfl, _, Eq.trans (World.drewN_drewN _ _ _) (congrArg (World.drewN _) (Nat.add_assoc _ _ _))⟩)) | (go_at_call 23; (with_reducible refine (bolterlaw12_bits.calls kj11 t133 t141 _ A35.out).mono ?_); rintro e w' ⟨rfl, ⟨nd, rfl⟩⟩; (try first | exact ⟨rfl, _, World.drewN_drewN _ _ _⟩ | exact ⟨rfl, _, Eq.trans (World.drewN_drewN _ _ _) (congrArg (World.drewN _) (Nat.add_assoc _ _ _))⟩); have hcz43_0 : wc.cell? ⟨gb137, 0, none⟩ = some (.string t134) := (blk_cell BK137.out 0).trans rfl; have hcz43_1 : wc.cell? ⟨gb137, 1, none⟩ = some (.int .i64 t135) := (blk_cell BK137.out 1).trans rfl; have hfz43_0 := blk_frozen BK137.out 0; have hfz43_1 := blk_frozen BK137.out 1) | (go_at_call 25; (with_reducible refine (prefix_Has.calls t134 t135 t133 t142 _ A39.out).mono ?_); rintro e w44 ⟨rfl, hb⟩; have n0_ := Aside0.mk (blk_below (g := gb137) (o := .cells #[.string t134, .int .i64 t135] 39 (0, 0)) (by (with_reducible repeat (first | refine blk_drewN ?_ _ | refine blk_drew ?_ | refine blk_alloc ?_ _)); exact BK137.out) hb); have n1_ := Aside0.mk (below_step (by repeat (first | (with_reducible first | exact HB.out | apply below_alloc | apply pw_below_drewN | apply below_drew1 | refine below_set ?_ GE137.out) | exact HB.out)) hb); clear BK137; clear HB; have BK137 := n0_; have HB := n1_; clear n0_ n1_; (try clear hb); (try clear hb2); (try clear hk); (try clear hi); have hcz45_0 : w44.cell? ⟨gb137, 0, none⟩ = some (.string t134) := (blk_cell BK137.out 0).trans rfl; have hcz45_1 : w44.cell? ⟨gb137, 1, none⟩ = some (.int .i64 t135) := (blk_cell BK137.out 1).trans rfl; have hfz45_0 := blk_frozen BK137.out 0; have hfz45_1 := blk_frozen BK137.out 1) | (go_at_call 25; (with_reducible refine (prefix_Has.calls t134 t135 (t132 ++ (⟨#[120]⟩ : ByteArray)) t143 _ A42.out).mono ?_); rintro e w46 ⟨rfl, hb⟩; have n0_ := Aside0.mk (blk_below (g := gb137) (o := .cells #[.string t134, .int .i64 t135] 39 (0, 0)) (by (with_reducible repeat (first | refine blk_drewN ?_ _ | refine blk_drew ?_ | refine blk_alloc ?_ _)); exact BK137.out) hb); have n1_ := Aside0.mk (below_step (by repeat (first | (with_reducible first | exact HB.out | apply below_alloc | apply pw_below_drewN | apply below_drew1 | refine below_set ?_ GE137.out) | exact HB.out)) hb); clear BK137; clear HB; have BK137 := n0_; have HB := n1_; clear n0_ n1_; (try clear hb); (try clear hb2); (try clear hk); (try clear hi)))
                          repeat (go_quiet (first | (go_at_call 23; (with_reducible refine (bolterlaw12_bits.calls kj11 t132 t140 _ A31.out).mono ?_); rintro e w' ⟨rfl, ⟨nd, rfl⟩⟩; (try first | exact ⟨rfl, _, World.drewN_drewN _ _ _⟩ | exact ⟨rfl, _, Eq.trans (World.drewN_drewN _ _ _) (congrArg (World.drewN _) (Nat.add_assoc _ _ _))⟩)) | (go_at_call 23; (with_reducible refine (bolterlaw12_bits.calls kj11 t133 t141 _ A35.out).mono ?_); rintro e w' ⟨rfl, ⟨nd, rfl⟩⟩; (try first | exact ⟨rfl, _, World.drewN_drewN _ _ _⟩ | exact ⟨rfl, _, Eq.trans (World.drewN_drewN _ _ _) (congrArg (World.drewN _) (Nat.add_assoc _ _ _))⟩); have hcz43_0 : wc.cell? ⟨gb137, 0, none⟩ = some (.string t134) := (blk_cell BK137.out 0).trans rfl; have hcz43_1 : wc.cell? ⟨gb137, 1, none⟩ = some (.int .i64 t135) := (blk_cell BK137.out 1).trans rfl; have hfz43_0 := blk_frozen BK137.out 0; have hfz43_1 := blk_frozen BK137.out 1) | (go_at_call 25; (with_reducible refine (prefix_Has.calls t134 t135 t133 t142 _ A39.out).mono ?_); rintro e w44 ⟨rfl, hb⟩; have n0_ := Aside0.mk (blk_below (g := gb137) (o := .cells #[.string t134, .int .i64 t135] 39 (0, 0)) (by (with_reducible repeat (first | refine blk_drewN ?_ _ | refine blk_drew ?_ | refine blk_alloc ?_ _)); exact BK137.out) hb); have n1_ := Aside0.mk (below_step (by repeat (first | (with_reducible first | exact HB.out | apply below_alloc | apply pw_below_drewN | apply below_drew1 | refine below_set ?_ GE137.out) | exact HB.out)) hb); clear BK137; clear HB; have BK137 := n0_; have HB := n1_; clear n0_ n1_; (try clear hb); (try clear hb2); (try clear hk); (try clear hi); have hcz45_0 : w44.cell? ⟨gb137, 0, none⟩ = some (.string t134) := (blk_cell BK137.out 0).trans rfl; have hcz45_1 : w44.cell? ⟨gb137, 1, none⟩ = some (.int .i64 t135) := (blk_cell BK137.out 1).trans rfl; have hfz45_0 := blk_frozen BK137.out 0; have hfz45_1 := blk_frozen BK137.out 1) | (go_at_call 25; (with_reducible refine (prefix_Has.calls t134 t135 (t132 ++ (⟨#[120]⟩ : ByteArray)) t143 _ A42.out).mono ?_); rintro e w46 ⟨rfl, hb⟩; have n0_ := Aside0.mk (blk_below (g := gb137) (o := .cells #[.string t134, .int .i64 t135] 39 (0, 0)) (by (with_reducible repeat (first | refine blk_drewN ?_ _ | refine blk_drew ?_ | refine blk_alloc ?_ _)); exact BK137.out) hb); have n1_ := Aside0.mk (below_step (by repeat (first | (with_reducible first | exact HB.out | apply below_alloc | apply pw_below_drewN | apply below_drew1 | refine below_set ?_ GE137.out) | exact HB.out)) hb); clear BK137; clear HB; have BK137 := n0_; have HB := n1_; clear n0_ n1_; (try clear hb); (try clear hb2); (try clear hk); (try clear hi))); try go_wp2_with (first | (go_at_call 23; (with_reducible refine (bolterlaw12_bits.calls kj11 t132 t140 _ A31.out).mono ?_); rintro e w' ⟨rfl, ⟨nd, rfl⟩⟩; (try first | exact ⟨rfl, _, World.drewN_drewN _ _ _⟩ | exact ⟨rfl, _, Eq.trans (World.drewN_drewN _ _ _) (congrArg (World.drewN _) (Nat.add_assoc _ _ _))⟩)) | (go_at_call 23; (with_reducible refine (bolterlaw12_bits.calls kj11 t133 t141 _ A35.out).mono ?_); rintro e w' ⟨rfl, ⟨nd, rfl⟩⟩; (try first | exact ⟨rfl, _, World.drewN_drewN _ _ _⟩ | exact ⟨rfl, _, Eq.trans (World.drewN_drewN _ _ _) (congrArg (World.drewN _) (Nat.add_assoc _ _ _))⟩); have hcz43_0 : wc.cell? ⟨gb137, 0, none⟩ = some (.string t134) := (blk_cell BK137.out 0).trans rfl; have hcz43_1 : wc.cell? ⟨gb137, 1, none⟩ = some (.int .i64 t135) := (blk_cell BK137.out 1).trans rfl; have hfz43_0 := blk_frozen BK137.out 0; have hfz43_1 := blk_frozen BK137.out 1) | (go_at_call 25; (with_reducible refine (prefix_Has.calls t134 t135 t133 t142 _ A39.out).mono ?_); rintro e w44 ⟨rfl, hb⟩; have n0_ := Aside0.mk (blk_below (g := gb137) (o := .cells #[.string t134, .int .i64 t135] 39 (0, 0)) (by (with_reducible repeat (first | refine blk_drewN ?_ _ | refine blk_drew ?_ | refine blk_alloc ?_ _)); exact BK137.out) hb); have n1_ := Aside0.mk (below_step (by repeat (first | (with_reducible first | exact HB.out | apply below_alloc | apply pw_below_drewN | apply below_drew1 | refine below_set ?_ GE137.out) | exact HB.out)) hb); clear BK137; clear HB; have BK137 := n0_; have HB := n1_; clear n0_ n1_; (try clear hb); (try clear hb2); (try clear hk); (try clear hi); have hcz45_0 : w44.cell? ⟨gb137, 0, none⟩ = some (.string t134) := (blk_cell BK137.out 0).trans rfl; have hcz45_1 : w44.cell? ⟨gb137, 1, none⟩ = some (.int .i64 t135) := (blk_cell BK137.out 1).trans rfl; have hfz45_0 := blk_frozen BK137.out 0; have hfz45_1 := blk_frozen BK137.out 1) | (go_at_call 25; (with_reducible refine (prefix_Has.calls t134 t135 (t132 ++ (⟨#[120]⟩ : ByteArray)) t143 _ A42.out).mono ?_); rintro e w46 ⟨rfl, hb⟩; have n0_ := Aside0.mk (blk_below (g := gb137) (o := .cells #[.string t134, .int .i64 t135] 39 (0, 0)) (by (with_reducible repeat (first | refine blk_drewN ?_ _ | refine blk_drew ?_ | refine blk_alloc ?_ _)); exact BK137.out) hb); have n1_ := Aside0.mk (below_step (by repeat (first | (with_reducible first | exact HB.out | apply below_alloc | apply pw_below_drewN | apply below_drew1 | refine below_set ?_ GE137.out) | exact HB.out)) hb); clear BK137; clear HB; have BK137 := n0_; have HB := n1_; clear n0_ n1_; (try clear hb); (try clear hb2); (try clear hk); (try clear hi))))
                          go_ret
                          exact ⟨by first | rfl | (simp [errW_none, errW_some] <;> rfl) | (simp only [← hji32, ← hji36]; first | rfl | (simp [errW_none, errW_some] <;> rfl)) | (simp [*, errW_none, errW_some] <;> rfl), by repeat (first | (with_reducible first | exact HB.out | apply below_alloc | apply pw_below_drewN | apply below_drew1 | refine below_set ?_ GE137.out) | exact HB.out)⟩
                        · rw [if_neg c41] at H
                          exact absurd H (by simp)
                      · rw [if_neg c40] at H
                        have c40b0 : (t142 == ((t140.extract 0 ((ji32) : Int).toNat).toList == (t141.extract 0 ((ji36) : Int).toNat).toList)) = false := by simpa using c40
                        (try (have c40b1 : decide (t142 = ((t140.extract 0 ((ji32) : Int).toNat).toList == (t141.extract 0 ((ji36) : Int).toNat).toList)) = false := by simpa using c40))
                        (try (have c40b2 : (t142 == ((t140.extract 0 ((ji32) : Int).toNat).toList == (t141.extract 0 ((ji36) : Int).toNat).toList)) = false := by simpa using c40))
                        (try (have c40b3 : ¬ (t142 = ((t140.extract 0 ((ji32) : Int).toNat).toList == (t141.extract 0 ((ji36) : Int).toNat).toList)) := by simpa using c40))
                        clear c40
                        obtain rfl := Option.some.inj H
                        go_wp2_with (first | (go_at_call 23; (with_reducible refine (bolterlaw12_bits.calls kj11 t132 t140 _ A31.out).mono ?_); rintro e w' ⟨rfl, ⟨nd, rfl⟩⟩; (try first | exact ⟨rfl, _, World.drewN_drewN _ _ _⟩ | exact ⟨rfl, _, Eq.trans (World.drewN_drewN _ _ _) (congrArg (World.drewN _) (Nat.add_assoc _ _ _))⟩)) | (go_at_call 23; (with_reducible refine (bolterlaw12_bits.calls kj11 t133 t141 _ A35.out).mono ?_); rintro e w' ⟨rfl, ⟨nd, rfl⟩⟩; (try first | exact ⟨rfl, _, World.drewN_drewN _ _ _⟩ | exact ⟨rfl, _, Eq.trans (World.drewN_drewN _ _ _) (congrArg (World.drewN _) (Nat.add_assoc _ _ _))⟩); have hcz47_0 : wc.cell? ⟨gb137, 0, none⟩ = some (.string t134) := (blk_cell BK137.out 0).trans rfl; have hcz47_1 : wc.cell? ⟨gb137, 1, none⟩ = some (.int .i64 t135) := (blk_cell BK137.out 1).trans rfl; have hfz47_0 := blk_frozen BK137.out 0; have hfz47_1 := blk_frozen BK137.out 1) | (go_at_call 25; (with_reducible refine (prefix_Has.calls t134 t135 t133 t142 _ A39.out).mono ?_); rintro e w48 ⟨rfl, hb⟩; have n0_ := Aside0.mk (blk_below (g := gb137) (o := .cells #[.string t134, .int .i64 t135] 39 (0, 0)) (by (with_reducible repeat (first | refine blk_drewN ?_ _ | refine blk_drew ?_ | refine blk_alloc ?_ _)); exact BK137.out) hb); have n1_ := Aside0.mk (below_step (by repeat (first | (with_reducible first | exact HB.out | apply below_alloc | apply pw_below_drewN | apply below_drew1 | refine below_set ?_ GE137.out) | exact HB.out)) hb); clear BK137; clear HB; have BK137 := n0_; have HB := n1_; clear n0_ n1_; (try clear hb); (try clear hb2); (try clear hk); (try clear hi)))
                        repeat (go_quiet (first | (go_at_call 23; (with_reducible refine (bolterlaw12_bits.calls kj11 t132 t140 _ A31.out).mono ?_); rintro e w' ⟨rfl, ⟨nd, rfl⟩⟩; (try first | exact ⟨rfl, _, World.drewN_drewN _ _ _⟩ | exact ⟨rfl, _, Eq.trans (World.drewN_drewN _ _ _) (congrArg (World.drewN _) (Nat.add_assoc _ _ _))⟩)) | (go_at_call 23; (with_reducible refine (bolterlaw12_bits.calls kj11 t133 t141 _ A35.out).mono ?_); rintro e w' ⟨rfl, ⟨nd, rfl⟩⟩; (try first | exact ⟨rfl, _, World.drewN_drewN _ _ _⟩ | exact ⟨rfl, _, Eq.trans (World.drewN_drewN _ _ _) (congrArg (World.drewN _) (Nat.add_assoc _ _ _))⟩); have hcz47_0 : wc.cell? ⟨gb137, 0, none⟩ = some (.string t134) := (blk_cell BK137.out 0).trans rfl; have hcz47_1 : wc.cell? ⟨gb137, 1, none⟩ = some (.int .i64 t135) := (blk_cell BK137.out 1).trans rfl; have hfz47_0 := blk_frozen BK137.out 0; have hfz47_1 := blk_frozen BK137.out 1) | (go_at_call 25; (with_reducible refine (prefix_Has.calls t134 t135 t133 t142 _ A39.out).mono ?_); rintro e w48 ⟨rfl, hb⟩; have n0_ := Aside0.mk (blk_below (g := gb137) (o := .cells #[.string t134, .int .i64 t135] 39 (0, 0)) (by (with_reducible repeat (first | refine blk_drewN ?_ _ | refine blk_drew ?_ | refine blk_alloc ?_ _)); exact BK137.out) hb); have n1_ := Aside0.mk (below_step (by repeat (first | (with_reducible first | exact HB.out | apply below_alloc | apply pw_below_drewN | apply below_drew1 | refine below_set ?_ GE137.out) | exact HB.out)) hb); clear BK137; clear HB; have BK137 := n0_; have HB := n1_; clear n0_ n1_; (try clear hb); (try clear hb2); (try clear hk); (try clear hi))); try go_wp2_with (first | (go_at_call 23; (with_reducible refine (bolterlaw12_bits.calls kj11 t132 t140 _ A31.out).mono ?_); rintro e w' ⟨rfl, ⟨nd, rfl⟩⟩; (try first | exact ⟨rfl, _, World.drewN_drewN _ _ _⟩ | exact ⟨rfl, _, Eq.trans (World.drewN_drewN _ _ _) (congrArg (World.drewN _) (Nat.add_assoc _ _ _))⟩)) | (go_at_call 23; (with_reducible refine (bolterlaw12_bits.calls kj11 t133 t141 _ A35.out).mono ?_); rintro e w' ⟨rfl, ⟨nd, rfl⟩⟩; (try first | exact ⟨rfl, _, World.drewN_drewN _ _ _⟩ | exact ⟨rfl, _, Eq.trans (World.drewN_drewN _ _ _) (congrArg (World.drewN _) (Nat.add_assoc _ _ _))⟩); have hcz47_0 : wc.cell? ⟨gb137, 0, none⟩ = some (.string t134) := (blk_cell BK137.out 0).trans rfl; have hcz47_1 : wc.cell? ⟨gb137, 1, none⟩ = some (.int .i64 t135) := (blk_cell BK137.out 1).trans rfl; have hfz47_0 := blk_frozen BK137.out 0; have hfz47_1 := blk_frozen BK137.out 1) | (go_at_call 25; (with_reducible refine (prefix_Has.calls t134 t135 t133 t142 _ A39.out).mono ?_); rintro e w48 ⟨rfl, hb⟩; have n0_ := Aside0.mk (blk_below (g := gb137) (o := .cells #[.string t134, .int .i64 t135] 39 (0, 0)) (by (with_reducible repeat (first | refine blk_drewN ?_ _ | refine blk_drew ?_ | refine blk_alloc ?_ _)); exact BK137.out) hb); have n1_ := Aside0.mk (below_step (by repeat (first | (with_reducible first | exact HB.out | apply below_alloc | apply pw_below_drewN | apply below_drew1 | refine below_set ?_ GE137.out) | exact HB.out)) hb); clear BK137; clear HB; have BK137 := n0_; have HB := n1_; clear n0_ n1_; (try clear hb); (try clear hb2); (try clear hk); (try clear hi))))
                        go_ret
                        exact ⟨by first | rfl | (simp [errW_none, errW_some] <;> rfl) | (simp only [← hji32, ← hji36]; first | rfl | (simp [errW_none, errW_some] <;> rfl)) | (simp [*, errW_none, errW_some] <;> rfl), by repeat (first | (with_reducible first | exact HB.out | apply below_alloc | apply pw_below_drewN | apply below_drew1 | refine below_set ?_ GE137.out) | exact HB.out)⟩
                    · rw [if_neg c38] at H
                      exact absurd H (by simp)
                  · rw [if_neg c37] at H
                    exact absurd H (by simp)
                · rw [if_neg c34] at H
                  exact absurd H (by simp)
              · rw [if_neg c33] at H
                exact absurd H (by simp)
            · rw [if_neg c30] at H
              have c30b0 : ((t132.size : Int) == (t133.size : Int)) = false := beq_eq_false_iff_ne.mpr c30
              have c30b1 : ((t132.size : Int) != (t133.size : Int)) = true := bne_iff_ne.mpr c30
              have c30b2 : (t132.size == t133.size) = false := by first | simpa using c30 | (simp at c30 ⊢; omega)
              replace H := Option.bind_eq_some_iff.mp H
              obtain ⟨t144, A490, H⟩ := H
              replace H : (if (t144 == false) = true then (if t132.size + 1 ≤ 9223372036854775807 then ((prefix_Has.f t134 t135 (t132 ++ (⟨#[120]⟩ : ByteArray))).bind fun t145 => (some (!t145))) else (none)) else (some false)) = some r := H
              have A49 := Aside0.mk A490
              clear A490
              by_cases c50 : (t144 == false) = true
              · rw [if_pos c50] at H
                have c50b0 : (t144 == false) = true := c50
                (try (have c50b1 : decide (t144 = false) = true := by simpa using c50))
                (try (have c50b2 : (t144 == false) = true := by simpa using c50))
                clear c50
                by_cases c51 : t132.size + 1 ≤ 9223372036854775807
                · rw [if_pos c51] at H
                  have c51b0 := eq_true c51
                  have c51b1 : decide (t132.size + 1 ≤ 9223372036854775807) = true := decide_eq_true c51
                  try have c51b2 : (9223372036854775807 < t132.size + 1) = False := eq_false (Nat.not_lt.2 c51)
                  replace H := Option.bind_eq_some_iff.mp H
                  obtain ⟨t145, A520, H⟩ := H
                  replace H : (some (!t145)) = some r := H
                  have A52 := Aside0.mk A520
                  clear A520
                  obtain rfl := Option.some.inj H
                  have hcz53_0 : wc.cell? ⟨gb137, 0, none⟩ = some (.string t134) := (blk_cell BK137.out 0).trans rfl
                  have hcz53_1 : wc.cell? ⟨gb137, 1, none⟩ = some (.int .i64 t135) := (blk_cell BK137.out 1).trans rfl
                  have hfz53_0 := blk_frozen BK137.out 0
                  have hfz53_1 := blk_frozen BK137.out 1
                  go_wp2_with (first | (go_at_call 25; (with_reducible refine (prefix_Has.calls t134 t135 t133 t144 _ A49.out).mono ?_); rintro e w54 ⟨rfl, hb⟩; have n0_ := Aside0.mk (blk_below (g := gb137) (o := .cells #[.string t134, .int .i64 t135] 39 (0, 0)) (by (with_reducible repeat (first | refine blk_drewN ?_ _ | refine blk_drew ?_ | refine blk_alloc ?_ _)); exact BK137.out) hb); have n1_ := Aside0.mk (below_step (by repeat (first | (with_reducible first | exact HB.out | apply below_alloc | apply pw_below_drewN | apply below_drew1 | refine below_set ?_ GE137.out) | exact HB.out)) hb); clear BK137; clear HB; have BK137 := n0_; have HB := n1_; clear n0_ n1_; (try clear hb); (try clear hb2); (try clear hk); (try clear hi); have hcz55_0 : w54.cell? ⟨gb137, 0, none⟩ = some (.string t134) := (blk_cell BK137.out 0).trans rfl; have hcz55_1 : w54.cell? ⟨gb137, 1, none⟩ = some (.int .i64 t135) := (blk_cell BK137.out 1).trans rfl; have hfz55_0 := blk_frozen BK137.out 0; have hfz55_1 := blk_frozen BK137.out 1) | (go_at_call 25; (with_reducible refine (prefix_Has.calls t134 t135 (t132 ++ (⟨#[120]⟩ : ByteArray)) t145 _ A52.out).mono ?_); rintro e w56 ⟨rfl, hb⟩; have n0_ := Aside0.mk (blk_below (g := gb137) (o := .cells #[.string t134, .int .i64 t135] 39 (0, 0)) (by (with_reducible repeat (first | refine blk_drewN ?_ _ | refine blk_drew ?_ | refine blk_alloc ?_ _)); exact BK137.out) hb); have n1_ := Aside0.mk (below_step (by repeat (first | (with_reducible first | exact HB.out | apply below_alloc | apply pw_below_drewN | apply below_drew1 | refine below_set ?_ GE137.out) | exact HB.out)) hb); clear BK137; clear HB; have BK137 := n0_; have HB := n1_; clear n0_ n1_; (try clear hb); (try clear hb2); (try clear hk); (try clear hi)))
                  repeat (go_quiet (first | (go_at_call 25; (with_reducible refine (prefix_Has.calls t134 t135 t133 t144 _ A49.out).mono ?_); rintro e w54 ⟨rfl, hb⟩; have n0_ := Aside0.mk (blk_below (g := gb137) (o := .cells #[.string t134, .int .i64 t135] 39 (0, 0)) (by (with_reducible repeat (first | refine blk_drewN ?_ _ | refine blk_drew ?_ | refine blk_alloc ?_ _)); exact BK137.out) hb); have n1_ := Aside0.mk (below_step (by repeat (first | (with_reducible first | exact HB.out | apply below_alloc | apply pw_below_drewN | apply below_drew1 | refine below_set ?_ GE137.out) | exact HB.out)) hb); clear BK137; clear HB; have BK137 := n0_; have HB := n1_; clear n0_ n1_; (try clear hb); (try clear hb2); (try clear hk); (try clear hi); have hcz55_0 : w54.cell? ⟨gb137, 0, none⟩ = some (.string t134) := (blk_cell BK137.out 0).trans rfl; have hcz55_1 : w54.cell? ⟨gb137, 1, none⟩ = some (.int .i64 t135) := (blk_cell BK137.out 1).trans rfl; have hfz55_0 := blk_frozen BK137.out 0; have hfz55_1 := blk_frozen BK137.out 1) | (go_at_call 25; (with_reducible refine (prefix_Has.calls t134 t135 (t132 ++ (⟨#[120]⟩ : ByteArray)) t145 _ A52.out).mono ?_); rintro e w56 ⟨rfl, hb⟩; have n0_ := Aside0.mk (blk_below (g := gb137) (o := .cells #[.string t134, .int .i64 t135] 39 (0, 0)) (by (with_reducible repeat (first | refine blk_drewN ?_ _ | refine blk_drew ?_ | refine blk_alloc ?_ _)); exact BK137.out) hb); have n1_ := Aside0.mk (below_step (by repeat (first | (with_reducible first | exact HB.out | apply below_alloc | apply pw_below_drewN | apply below_drew1 | refine below_set ?_ GE137.out) | exact HB.out)) hb); clear BK137; clear HB; have BK137 := n0_; have HB := n1_; clear n0_ n1_; (try clear hb); (try clear hb2); (try clear hk); (try clear hi))); try go_wp2_with (first | (go_at_call 25; (with_reducible refine (prefix_Has.calls t134 t135 t133 t144 _ A49.out).mono ?_); rintro e w54 ⟨rfl, hb⟩; have n0_ := Aside0.mk (blk_below (g := gb137) (o := .cells #[.string t134, .int .i64 t135] 39 (0, 0)) (by (with_reducible repeat (first | refine blk_drewN ?_ _ | refine blk_drew ?_ | refine blk_alloc ?_ _)); exact BK137.out) hb); have n1_ := Aside0.mk (below_step (by repeat (first | (with_reducible first | exact HB.out | apply below_alloc | apply pw_below_drewN | apply below_drew1 | refine below_set ?_ GE137.out) | exact HB.out)) hb); clear BK137; clear HB; have BK137 := n0_; have HB := n1_; clear n0_ n1_; (try clear hb); (try clear hb2); (try clear hk); (try clear hi); have hcz55_0 : w54.cell? ⟨gb137, 0, none⟩ = some (.string t134) := (blk_cell BK137.out 0).trans rfl; have hcz55_1 : w54.cell? ⟨gb137, 1, none⟩ = some (.int .i64 t135) := (blk_cell BK137.out 1).trans rfl; have hfz55_0 := blk_frozen BK137.out 0; have hfz55_1 := blk_frozen BK137.out 1) | (go_at_call 25; (with_reducible refine (prefix_Has.calls t134 t135 (t132 ++ (⟨#[120]⟩ : ByteArray)) t145 _ A52.out).mono ?_); rintro e w56 ⟨rfl, hb⟩; have n0_ := Aside0.mk (blk_below (g := gb137) (o := .cells #[.string t134, .int .i64 t135] 39 (0, 0)) (by (with_reducible repeat (first | refine blk_drewN ?_ _ | refine blk_drew ?_ | refine blk_alloc ?_ _)); exact BK137.out) hb); have n1_ := Aside0.mk (below_step (by repeat (first | (with_reducible first | exact HB.out | apply below_alloc | apply pw_below_drewN | apply below_drew1 | refine below_set ?_ GE137.out) | exact HB.out)) hb); clear BK137; clear HB; have BK137 := n0_; have HB := n1_; clear n0_ n1_; (try clear hb); (try clear hb2); (try clear hk); (try clear hi))))
                  go_ret
                  exact ⟨by first | rfl | (simp [errW_none, errW_some] <;> rfl) | (simp [*, errW_none, errW_some] <;> rfl), by repeat (first | (with_reducible first | exact HB.out | apply below_alloc | apply pw_below_drewN | apply below_drew1 | refine below_set ?_ GE137.out) | exact HB.out)⟩
                · rw [if_neg c51] at H
                  exact absurd H (by simp)
              · rw [if_neg c50] at H
                have c50b0 : (t144 == false) = false := by simpa using c50
                (try (have c50b1 : decide (t144 = false) = false := by simpa using c50))
                (try (have c50b2 : (t144 == false) = false := by simpa using c50))
                (try (have c50b3 : ¬ (t144 = false) := by simpa using c50))
                clear c50
                obtain rfl := Option.some.inj H
                have hcz57_0 : wc.cell? ⟨gb137, 0, none⟩ = some (.string t134) := (blk_cell BK137.out 0).trans rfl
                have hcz57_1 : wc.cell? ⟨gb137, 1, none⟩ = some (.int .i64 t135) := (blk_cell BK137.out 1).trans rfl
                have hfz57_0 := blk_frozen BK137.out 0
                have hfz57_1 := blk_frozen BK137.out 1
                go_wp2_with (first | (go_at_call 25; (with_reducible refine (prefix_Has.calls t134 t135 t133 t144 _ A49.out).mono ?_); rintro e w58 ⟨rfl, hb⟩; have n0_ := Aside0.mk (blk_below (g := gb137) (o := .cells #[.string t134, .int .i64 t135] 39 (0, 0)) (by (with_reducible repeat (first | refine blk_drewN ?_ _ | refine blk_drew ?_ | refine blk_alloc ?_ _)); exact BK137.out) hb); have n1_ := Aside0.mk (below_step (by repeat (first | (with_reducible first | exact HB.out | apply below_alloc | apply pw_below_drewN | apply below_drew1 | refine below_set ?_ GE137.out) | exact HB.out)) hb); clear BK137; clear HB; have BK137 := n0_; have HB := n1_; clear n0_ n1_; (try clear hb); (try clear hb2); (try clear hk); (try clear hi)))
                repeat (go_quiet (first | (go_at_call 25; (with_reducible refine (prefix_Has.calls t134 t135 t133 t144 _ A49.out).mono ?_); rintro e w58 ⟨rfl, hb⟩; have n0_ := Aside0.mk (blk_below (g := gb137) (o := .cells #[.string t134, .int .i64 t135] 39 (0, 0)) (by (with_reducible repeat (first | refine blk_drewN ?_ _ | refine blk_drew ?_ | refine blk_alloc ?_ _)); exact BK137.out) hb); have n1_ := Aside0.mk (below_step (by repeat (first | (with_reducible first | exact HB.out | apply below_alloc | apply pw_below_drewN | apply below_drew1 | refine below_set ?_ GE137.out) | exact HB.out)) hb); clear BK137; clear HB; have BK137 := n0_; have HB := n1_; clear n0_ n1_; (try clear hb); (try clear hb2); (try clear hk); (try clear hi))); try go_wp2_with (first | (go_at_call 25; (with_reducible refine (prefix_Has.calls t134 t135 t133 t144 _ A49.out).mono ?_); rintro e w58 ⟨rfl, hb⟩; have n0_ := Aside0.mk (blk_below (g := gb137) (o := .cells #[.string t134, .int .i64 t135] 39 (0, 0)) (by (with_reducible repeat (first | refine blk_drewN ?_ _ | refine blk_drew ?_ | refine blk_alloc ?_ _)); exact BK137.out) hb); have n1_ := Aside0.mk (below_step (by repeat (first | (with_reducible first | exact HB.out | apply below_alloc | apply pw_below_drewN | apply below_drew1 | refine below_set ?_ GE137.out) | exact HB.out)) hb); clear BK137; clear HB; have BK137 := n0_; have HB := n1_; clear n0_ n1_; (try clear hb); (try clear hb2); (try clear hk); (try clear hi))))
                go_ret
                exact ⟨by first | rfl | (simp [errW_none, errW_some] <;> rfl) | (simp [*, errW_none, errW_some] <;> rfl), by repeat (first | (with_reducible first | exact HB.out | apply below_alloc | apply pw_below_drewN | apply below_drew1 | refine below_set ?_ GE137.out) | exact HB.out)⟩
  · replace c7 := Bool.eq_false_iff.mpr c7
    subst c7
    have H1 : (some false) = some r := by rw [if_neg (show ¬ (false = true) by decide)] at H; exact H
    clear H
    have H := H1
    clear H1
    obtain rfl := Option.some.inj H
    go_enter Try.func9, Try.ntmps9
    go_wp2_with (first | (go_at_call 19; (with_reducible refine (bolterlaw12_awake.calls  false _ A6.out).mono ?_); rintro e w59 ⟨rfl, hb⟩; have n0_ := Aside0.mk (below_step (by repeat (first | (with_reducible first | exact HB.out | apply below_alloc | apply pw_below_drewN | apply below_drew1) | exact HB.out)) hb); clear HB; have HB := n0_; clear n0_; (try clear hb); (try clear hb2); (try clear hk); (try clear hi)))
    repeat (go_quiet (first | (go_at_call 19; (with_reducible refine (bolterlaw12_awake.calls  false _ A6.out).mono ?_); rintro e w59 ⟨rfl, hb⟩; have n0_ := Aside0.mk (below_step (by repeat (first | (with_reducible first | exact HB.out | apply below_alloc | apply pw_below_drewN | apply below_drew1) | exact HB.out)) hb); clear HB; have HB := n0_; clear n0_; (try clear hb); (try clear hb2); (try clear hk); (try clear hi))); try go_wp2_with (first | (go_at_call 19; (with_reducible refine (bolterlaw12_awake.calls  false _ A6.out).mono ?_); rintro e w59 ⟨rfl, hb⟩; have n0_ := Aside0.mk (below_step (by repeat (first | (with_reducible first | exact HB.out | apply below_alloc | apply pw_below_drewN | apply below_drew1) | exact HB.out)) hb); clear HB; have HB := n0_; clear n0_; (try clear hb); (try clear hb2); (try clear hk); (try clear hi))))
    go_ret
    exact ⟨by first | rfl | (simp [errW_none, errW_some] <;> rfl) | (simp [*, errW_none, errW_some] <;> rfl), by repeat (first | (with_reducible first | exact HB.out | apply below_alloc | apply pw_below_drewN | apply below_drew1) | exact HB.out)⟩

/-- THE ONE PURE STATEMENT of bolterlaw12_PrefixHas: yours. -/
def bolterlaw12_PrefixHas.Pure : Prop := ∀ (a0 : Bool) (l1 : List Int) (a2 : Int) (l3 : List Int) (a4 : Bool), l1.length ≤ maxLen → l1.length * 1 ≤ 140737488351232 → (∀ x ∈ l1, (Lit.int .u8 x).wf = true) → (Lit.int .u8 a2).wf = true → l3.length ≤ maxLen → l3.length * 1 ≤ 140737488351232 → (∀ x ∈ l3, (Lit.int .u8 x).wf = true) → ∃ k, bolterlaw12_PrefixHas.f k a0 l1 a2 l3 a4 = some true
theorem bolterlaw12_PrefixHas.walk (P : bolterlaw12_PrefixHas.Pure) (a0 : Bool) (a1 : Option Addr) (len1 cap1 : Nat) (z1 : List Int) (a2 : Int) (a3 : Option Addr) (len3 cap3 : Nat) (z3 : List Int) (a4 : Bool) (w : World) (w1 : (a1 = none ∧ len1 = 0 ∧ cap1 = 0 ∧ z1 = []) ∨ ∃ x, a1 = some x ∧ len1 ≤ cap1 ∧ cap1 ≤ maxLen ∧ z1.length = cap1 ∧ (∀ i, i < z1.length → w.cell? (x.add i) = some (.int .u8 (z1.getD i 0))) ∧ ∀ n ∈ z1, (Lit.int .u8 n).wf = true) (y1 : len1 * 1 ≤ 140737488351232) (w2 : (Lit.int .u8 a2).wf = true) (w3 : (a3 = none ∧ len3 = 0 ∧ cap3 = 0 ∧ z3 = []) ∨ ∃ x, a3 = some x ∧ len3 ≤ cap3 ∧ cap3 ≤ maxLen ∧ z3.length = cap3 ∧ (∀ i, i < z3.length → w.cell? (x.add i) = some (.int .u8 (z3.getD i 0))) ∧ ∀ n ∈ z3, (Lit.int .u8 n).wf = true) (y3 : len3 * 1 ≤ 140737488351232) :
    Calls Try.prog 9 #[.bool a0, .slice a1 len1 cap1, .int .u8 a2, .slice a3 len3 cap3, .bool a4] w fun e w' => e = .returned (.bool true) ∧ Below w.heap.size w w' := by
  obtain ⟨l1, rfl, hr1, hm1, hw1, hc1⟩ := ReadsInt.ofRowC w1
  obtain ⟨l3, rfl, hr3, hm3, hw3, hc3⟩ := ReadsInt.ofRowC w3
  obtain ⟨k, h⟩ := P a0 l1 a2 l3 a4 hm1 y1 hw1 w2 hm3 y3 hw3
  refine (bolterlaw12_PrefixHas.calls k a0 _ _ l1 a2 _ _ l3 a4 true w (Kd.C_of_reads (d := (0 : Int)) (h1 := fun _ => rfl) hr1) hc1 (Kd.C_of_reads (d := (0 : Int)) (h1 := fun _ => rfl) hr3) hc3 h).mono ?_
  rintro e w' ⟨rfl, hd⟩
  exact ⟨rfl, hd⟩

end Go.Proofs.Ytbnmpopcnpjjdaa.PPre
