/- The contract of action.Over: its parts are handed on as they are; and the statement ActionOver walked. -/
import Derived.Test.YtdkjlbbbdjkhbaaHandG
import Derived.Test.YtdkjlbbbdjkhbaaPAllx38
import Derived.Test.YtdkjlbbbdjkhbaaPAllx45
import Derived.Test.YtdkjlbbbdjkhbaaPAllx48
set_option linter.unusedVariables false
namespace Go.Proofs.Ytdkjlbbbdjkhbaa.Hand
open Go.RowKit Go.Proofs.YtdkjlbbbdjkhbaaW.PrintWords Go.Proofs.YtdkjlbbbdjkhbaaW.PrintLast Go.Proofs.Ytdkjlbbbdjkhbaa.PAll

theorem new2 (w : World) (o o' : Obj) : ((w.alloc o).alloc o').heap[w.heap.size + 1]? = some o' := by
  have h := blk_new (w.alloc o) o'
  rwa [show (w.alloc o).heap.size = w.heap.size + 1 by simp] at h
def keepsA (k : Int) : Prop := k = 0 ∨ k = 8 ∨ k = 7 ∨ k < 0 ∨ 8 < k
set_option maxHeartbeats 1000000 in
set_option maxRecDepth 100000 in
theorem over_keep (k0 : Int) (s : ByteArray) (b : Bool) (A : Option Addr) (n c : Nat) (k : Int) (w : World) (hk : keepsA k) :
    Calls Try.prog 23 #[.agg #[.int .i64 k0, .string s, .bool b, .slice A n c], .int .i64 k] w fun e w' => e = .returned (.agg #[.int .i64 k0, .string s, .bool b, .slice A n c]) ∧ Below w.heap.size w w' := by
  by_cases h0 : k = 0
  · subst h0
    clear hk
    go_enter Try.func23, Try.ntmps23
    go_wp2_with (fail)
    refine bodyPost_ret (results_cell_row rfl _ _ (w.heap.size + 1) 28 _ (0, 0) _ rfl (new2 _ _ _) Try.underlying28 rfl (by kernel_rfl)) rfl ?_
    exact ⟨rfl, below_alloc (below_alloc (Below.refl _ _) _) _⟩
  by_cases h8 : k = 8
  · subst h8
    clear hk
    go_enter Try.func23, Try.ntmps23
    go_wp2_with (fail)
    refine bodyPost_ret (results_cell_row rfl _ _ (w.heap.size + 1) 28 _ (0, 0) _ rfl (new2 _ _ _) Try.underlying28 rfl (by kernel_rfl)) rfl ?_
    exact ⟨rfl, below_alloc (below_alloc (Below.refl _ _) _) _⟩
  by_cases h7 : k = 7
  · subst h7
    clear hk
    go_enter Try.func23, Try.ntmps23
    go_wp2_with (fail)
    refine bodyPost_ret (results_cell_row rfl _ _ (w.heap.size + 1) 28 _ (0, 0) _ rfl (new2 _ _ _) Try.underlying28 rfl (by kernel_rfl)) rfl ?_
    exact ⟨rfl, below_alloc (below_alloc (Below.refl _ _) _) _⟩
  have f0 : (k == 0) = false := beq_eq_false_iff_ne.2 h0
  have f8 : (k == 8) = false := beq_eq_false_iff_ne.2 h8
  have f7 : (k == 7) = false := beq_eq_false_iff_ne.2 h7
  by_cases hn : k < 0
  · clear hk
    go_enter Try.func23, Try.ntmps23
    go_wp2_with (fail)
    refine bodyPost_ret (results_cell_row rfl _ _ (w.heap.size + 1) 28 _ (0, 0) _ rfl (new2 _ _ _) Try.underlying28 rfl (by kernel_rfl)) rfl ?_
    exact ⟨rfl, below_alloc (below_alloc (Below.refl _ _) _) _⟩
  have hg : 8 < k := by unfold keepsA at hk; omega
  clear hk
  go_enter Try.func23, Try.ntmps23
  go_wp2_with (fail)
  refine bodyPost_ret (results_cell_row rfl _ _ (w.heap.size + 1) 28 _ (0, 0) _ rfl (new2 _ _ _) Try.underlying28 rfl (by kernel_rfl)) rfl ?_
  exact ⟨rfl, below_alloc (below_alloc (Below.refl _ _) _) _⟩
set_option maxHeartbeats 1000000 in
set_option maxRecDepth 100000 in
theorem over_new (k0 : Int) (s : ByteArray) (b : Bool) (A : Option Addr) (n c : Nat) (k : Int) (w : World) (hk : 1 ≤ k ∧ k ≤ 6) :
    Calls Try.prog 23 #[.agg #[.int .i64 k0, .string s, .bool b, .slice A n c], .int .i64 k] w fun e w' => e = .returned (.agg #[.int .i64 k, .string ⟨#[]⟩, .bool false, .slice none 0 0]) ∧ Below w.heap.size w w' := by
  have h0 : ¬ k = 0 := by omega
  have h8 : ¬ k = 8 := by omega
  have h7 : ¬ k = 7 := by omega
  have f0 : (k == 0) = false := beq_eq_false_iff_ne.2 h0
  have f8 : (k == 8) = false := beq_eq_false_iff_ne.2 h8
  have f7 : (k == 7) = false := beq_eq_false_iff_ne.2 h7
  have hn : ¬ k < 0 := by omega
  have hg : ¬ 8 < k := by omega
  clear hk
  go_enter Try.func23, Try.ntmps23
  go_wp2_with (fail)
  refine bodyPost_ret (results_cell_row rfl _ _ (w.heap.size + 1) 28 _ (0, 0) _ rfl (new2 _ _ _) Try.underlying28 rfl (by kernel_rfl)) rfl ?_
  exact ⟨rfl, below_alloc (below_alloc (Below.refl _ _) _) _⟩

theorem oneRec (W : World) (r : S43) : Kd.C k43 (W.alloc (.cells #[.string r.f0, .int .u16 r.f1, .int .u32 r.f2, .string r.f3] 43)) (some ⟨W.heap.size, 0, none⟩) 1 [r] := by
  refine ⟨rfl, by decide, fun _ => ⟨_, rfl, fun j p hj => ?_⟩⟩
  have h1 : j = 0 := by
    have := (List.getElem?_eq_some_iff.1 hj).1
    simp at this
    omega
  subst h1
  obtain rfl : r = p := by simpa using hj
  refine ⟨[.string r.f0, .int .u16 r.f1, .int .u32 r.f2, .string r.f3], rfl, k43_mk _ _, fun i u hi => ?_⟩
  have h2 := blk_cell (blk_new W (.cells #[.string r.f0, .int .u16 r.f1, .int .u32 r.f2, .string r.f3] 43)) i
  have e1 : (⟨W.heap.size, 0, none⟩ : Addr).add (0 * 4 + i) = ⟨W.heap.size, i, none⟩ := by unfold Addr.add; by_cases h0 : i = 0 <;> simp [h0]
  rw [show k43.sz = 4 from rfl, e1, h2]
  simpa using hi
def given (a3 : Int) (r1 : Int) (r2 : ByteArray) (r3 : Bool) : Int × ByteArray × Bool := if 1 ≤ a3 ∧ a3 ≤ 6 then (a3, ⟨#[]⟩, false) else (r1, r2, r3)
set_option maxHeartbeats 4000000 in
set_option maxRecDepth 100000 in
theorem over_law (k : Nat) (A0 : Option Addr) (n0 c0 : Nat) (a1 : Int) (A2 : Option Addr) (c2 : Nat) (l2 : List Int) (a3 : Int) (t : ByteArray) (r1 : Int) (r2 : ByteArray) (r3 r5 : Bool) (w : World)
    (hr2 : Kd.C (Kd.int .u8) w A2 l2.length l2) (hc2 : l2.length ≤ c2) (hA : bolterlaw14_awake.f k = some true) (hT : bolterlaw14_Target.f k a1 l2 = some t)
    (hO : action_Of.f k [(⟨(⟨#[]⟩ : ByteArray), 5, 0, t⟩ : S43)] = some (r1, r2, r3, [], r5))
    (hS : action_Same.f k r1 r2 r3 [] r1 r2 r3 [] = some true) (hN : action_Same.f k a3 ⟨#[]⟩ false [] a3 ⟨#[]⟩ false [] = some true) :
    Calls Try.prog 7 #[.slice A0 n0 c0, .int .u8 a1, .slice A2 l2.length c2, .int .i64 a3] w fun e w' => e = .returned (.bool true) ∧ Below w.heap.size w w' := by
  have HB := Aside0.mk (Below.refl w.heap.size w)
  have HR := Aside0.mk hr2
  have HA := Aside0.mk hA
  have HT := Aside0.mk hT
  have HO := Aside0.mk hO
  have HS := Aside0.mk hS
  have HN := Aside0.mk hN
  clear hr2 hA hT hO hS hN
  by_cases hk : 1 ≤ a3 ∧ a3 ≤ 6
  · clear HS
    rcases (show a3 = 1 ∨ a3 = 2 ∨ a3 = 3 ∨ a3 = 4 ∨ a3 = 5 ∨ a3 = 6 by omega) with rfl | rfl | rfl | rfl | rfl | rfl
    · go_enter Try.func7, Try.ntmps7
      go_wp2_with (first | (go_at_call 13; refine (bolterlaw14_awake.calls k true _ HA.out rfl).mono ?_; rintro e w1 ⟨rfl, hb⟩; have H1 := Aside0.mk (below_step HB.out hb); clear HB hb; have HB := H1; clear H1) | (go_at_call 15; refine (bolterlaw14_Target.calls k a1 A2 c2 l2 t _ (Kd.C_below HR.out HB.out) hc2 HT.out).mono ?_; rintro e w2 ⟨rfl, hb⟩; have H1 := Aside0.mk (below_step HB.out hb); clear HB hb; have HB := H1; clear H1) | (go_at_call 19; refine (action_Of.calls k _ 1 [(⟨(⟨#[]⟩ : ByteArray), 5, 0, t⟩ : S43)] r1 r2 r3 [] r5 _ (oneRec _ _) (Nat.le_refl _) HO.out).mono ?_; rintro e w3 ⟨v, rfl, hR, hb⟩; obtain ⟨A, c, rfl, hl, hC⟩ := Kd.R_reads hR; have H1 := Aside0.mk (below_step (below_alloc HB.out _) hb); clear HB hb hR; have HB := H1; have HC := Aside0.mk hC; clear H1 hC) | (go_at_call 23; refine (over_new r1 r2 r3 A _ c _ _ (by decide)).mono ?_; rintro e w4 ⟨rfl, hb⟩; have H1 := Aside0.mk (below_step (below_alloc HB.out _) hb); have H2 := Aside0.mk (Kd.C_below HC.out (below_step (below_alloc (Below.refl _ _) _) hb)); clear HB hb HC; have HB := H1; have HC := H2; clear H1 H2) | (go_at_call 20; refine (action_Same.calls k _ ⟨#[]⟩ false none 0 [] _ ⟨#[]⟩ false none 0 [] true _ (Kd.C_nil _ _) (Nat.le_refl _) (Kd.C_nil _ _) (Nat.le_refl _) HN.out).mono ?_; rintro e w5 ⟨rfl, hb⟩; have H1 := Aside0.mk (below_step (below_alloc HB.out _) hb); clear HB hb; have HB := H1; clear H1))
      go_ret
      exact ⟨rfl, HB.out⟩
    · go_enter Try.func7, Try.ntmps7
      go_wp2_with (first | (go_at_call 13; refine (bolterlaw14_awake.calls k true _ HA.out rfl).mono ?_; rintro e w1 ⟨rfl, hb⟩; have H1 := Aside0.mk (below_step HB.out hb); clear HB hb; have HB := H1; clear H1) | (go_at_call 15; refine (bolterlaw14_Target.calls k a1 A2 c2 l2 t _ (Kd.C_below HR.out HB.out) hc2 HT.out).mono ?_; rintro e w2 ⟨rfl, hb⟩; have H1 := Aside0.mk (below_step HB.out hb); clear HB hb; have HB := H1; clear H1) | (go_at_call 19; refine (action_Of.calls k _ 1 [(⟨(⟨#[]⟩ : ByteArray), 5, 0, t⟩ : S43)] r1 r2 r3 [] r5 _ (oneRec _ _) (Nat.le_refl _) HO.out).mono ?_; rintro e w3 ⟨v, rfl, hR, hb⟩; obtain ⟨A, c, rfl, hl, hC⟩ := Kd.R_reads hR; have H1 := Aside0.mk (below_step (below_alloc HB.out _) hb); clear HB hb hR; have HB := H1; have HC := Aside0.mk hC; clear H1 hC) | (go_at_call 23; refine (over_new r1 r2 r3 A _ c _ _ (by decide)).mono ?_; rintro e w4 ⟨rfl, hb⟩; have H1 := Aside0.mk (below_step (below_alloc HB.out _) hb); have H2 := Aside0.mk (Kd.C_below HC.out (below_step (below_alloc (Below.refl _ _) _) hb)); clear HB hb HC; have HB := H1; have HC := H2; clear H1 H2) | (go_at_call 20; refine (action_Same.calls k _ ⟨#[]⟩ false none 0 [] _ ⟨#[]⟩ false none 0 [] true _ (Kd.C_nil _ _) (Nat.le_refl _) (Kd.C_nil _ _) (Nat.le_refl _) HN.out).mono ?_; rintro e w5 ⟨rfl, hb⟩; have H1 := Aside0.mk (below_step (below_alloc HB.out _) hb); clear HB hb; have HB := H1; clear H1))
      go_ret
      exact ⟨rfl, HB.out⟩
    · go_enter Try.func7, Try.ntmps7
      go_wp2_with (first | (go_at_call 13; refine (bolterlaw14_awake.calls k true _ HA.out rfl).mono ?_; rintro e w1 ⟨rfl, hb⟩; have H1 := Aside0.mk (below_step HB.out hb); clear HB hb; have HB := H1; clear H1) | (go_at_call 15; refine (bolterlaw14_Target.calls k a1 A2 c2 l2 t _ (Kd.C_below HR.out HB.out) hc2 HT.out).mono ?_; rintro e w2 ⟨rfl, hb⟩; have H1 := Aside0.mk (below_step HB.out hb); clear HB hb; have HB := H1; clear H1) | (go_at_call 19; refine (action_Of.calls k _ 1 [(⟨(⟨#[]⟩ : ByteArray), 5, 0, t⟩ : S43)] r1 r2 r3 [] r5 _ (oneRec _ _) (Nat.le_refl _) HO.out).mono ?_; rintro e w3 ⟨v, rfl, hR, hb⟩; obtain ⟨A, c, rfl, hl, hC⟩ := Kd.R_reads hR; have H1 := Aside0.mk (below_step (below_alloc HB.out _) hb); clear HB hb hR; have HB := H1; have HC := Aside0.mk hC; clear H1 hC) | (go_at_call 23; refine (over_new r1 r2 r3 A _ c _ _ (by decide)).mono ?_; rintro e w4 ⟨rfl, hb⟩; have H1 := Aside0.mk (below_step (below_alloc HB.out _) hb); have H2 := Aside0.mk (Kd.C_below HC.out (below_step (below_alloc (Below.refl _ _) _) hb)); clear HB hb HC; have HB := H1; have HC := H2; clear H1 H2) | (go_at_call 20; refine (action_Same.calls k _ ⟨#[]⟩ false none 0 [] _ ⟨#[]⟩ false none 0 [] true _ (Kd.C_nil _ _) (Nat.le_refl _) (Kd.C_nil _ _) (Nat.le_refl _) HN.out).mono ?_; rintro e w5 ⟨rfl, hb⟩; have H1 := Aside0.mk (below_step (below_alloc HB.out _) hb); clear HB hb; have HB := H1; clear H1))
      go_ret
      exact ⟨rfl, HB.out⟩
    · go_enter Try.func7, Try.ntmps7
      go_wp2_with (first | (go_at_call 13; refine (bolterlaw14_awake.calls k true _ HA.out rfl).mono ?_; rintro e w1 ⟨rfl, hb⟩; have H1 := Aside0.mk (below_step HB.out hb); clear HB hb; have HB := H1; clear H1) | (go_at_call 15; refine (bolterlaw14_Target.calls k a1 A2 c2 l2 t _ (Kd.C_below HR.out HB.out) hc2 HT.out).mono ?_; rintro e w2 ⟨rfl, hb⟩; have H1 := Aside0.mk (below_step HB.out hb); clear HB hb; have HB := H1; clear H1) | (go_at_call 19; refine (action_Of.calls k _ 1 [(⟨(⟨#[]⟩ : ByteArray), 5, 0, t⟩ : S43)] r1 r2 r3 [] r5 _ (oneRec _ _) (Nat.le_refl _) HO.out).mono ?_; rintro e w3 ⟨v, rfl, hR, hb⟩; obtain ⟨A, c, rfl, hl, hC⟩ := Kd.R_reads hR; have H1 := Aside0.mk (below_step (below_alloc HB.out _) hb); clear HB hb hR; have HB := H1; have HC := Aside0.mk hC; clear H1 hC) | (go_at_call 23; refine (over_new r1 r2 r3 A _ c _ _ (by decide)).mono ?_; rintro e w4 ⟨rfl, hb⟩; have H1 := Aside0.mk (below_step (below_alloc HB.out _) hb); have H2 := Aside0.mk (Kd.C_below HC.out (below_step (below_alloc (Below.refl _ _) _) hb)); clear HB hb HC; have HB := H1; have HC := H2; clear H1 H2) | (go_at_call 20; refine (action_Same.calls k _ ⟨#[]⟩ false none 0 [] _ ⟨#[]⟩ false none 0 [] true _ (Kd.C_nil _ _) (Nat.le_refl _) (Kd.C_nil _ _) (Nat.le_refl _) HN.out).mono ?_; rintro e w5 ⟨rfl, hb⟩; have H1 := Aside0.mk (below_step (below_alloc HB.out _) hb); clear HB hb; have HB := H1; clear H1))
      go_ret
      exact ⟨rfl, HB.out⟩
    · go_enter Try.func7, Try.ntmps7
      go_wp2_with (first | (go_at_call 13; refine (bolterlaw14_awake.calls k true _ HA.out rfl).mono ?_; rintro e w1 ⟨rfl, hb⟩; have H1 := Aside0.mk (below_step HB.out hb); clear HB hb; have HB := H1; clear H1) | (go_at_call 15; refine (bolterlaw14_Target.calls k a1 A2 c2 l2 t _ (Kd.C_below HR.out HB.out) hc2 HT.out).mono ?_; rintro e w2 ⟨rfl, hb⟩; have H1 := Aside0.mk (below_step HB.out hb); clear HB hb; have HB := H1; clear H1) | (go_at_call 19; refine (action_Of.calls k _ 1 [(⟨(⟨#[]⟩ : ByteArray), 5, 0, t⟩ : S43)] r1 r2 r3 [] r5 _ (oneRec _ _) (Nat.le_refl _) HO.out).mono ?_; rintro e w3 ⟨v, rfl, hR, hb⟩; obtain ⟨A, c, rfl, hl, hC⟩ := Kd.R_reads hR; have H1 := Aside0.mk (below_step (below_alloc HB.out _) hb); clear HB hb hR; have HB := H1; have HC := Aside0.mk hC; clear H1 hC) | (go_at_call 23; refine (over_new r1 r2 r3 A _ c _ _ (by decide)).mono ?_; rintro e w4 ⟨rfl, hb⟩; have H1 := Aside0.mk (below_step (below_alloc HB.out _) hb); have H2 := Aside0.mk (Kd.C_below HC.out (below_step (below_alloc (Below.refl _ _) _) hb)); clear HB hb HC; have HB := H1; have HC := H2; clear H1 H2) | (go_at_call 20; refine (action_Same.calls k _ ⟨#[]⟩ false none 0 [] _ ⟨#[]⟩ false none 0 [] true _ (Kd.C_nil _ _) (Nat.le_refl _) (Kd.C_nil _ _) (Nat.le_refl _) HN.out).mono ?_; rintro e w5 ⟨rfl, hb⟩; have H1 := Aside0.mk (below_step (below_alloc HB.out _) hb); clear HB hb; have HB := H1; clear H1))
      go_ret
      exact ⟨rfl, HB.out⟩
    · go_enter Try.func7, Try.ntmps7
      go_wp2_with (first | (go_at_call 13; refine (bolterlaw14_awake.calls k true _ HA.out rfl).mono ?_; rintro e w1 ⟨rfl, hb⟩; have H1 := Aside0.mk (below_step HB.out hb); clear HB hb; have HB := H1; clear H1) | (go_at_call 15; refine (bolterlaw14_Target.calls k a1 A2 c2 l2 t _ (Kd.C_below HR.out HB.out) hc2 HT.out).mono ?_; rintro e w2 ⟨rfl, hb⟩; have H1 := Aside0.mk (below_step HB.out hb); clear HB hb; have HB := H1; clear H1) | (go_at_call 19; refine (action_Of.calls k _ 1 [(⟨(⟨#[]⟩ : ByteArray), 5, 0, t⟩ : S43)] r1 r2 r3 [] r5 _ (oneRec _ _) (Nat.le_refl _) HO.out).mono ?_; rintro e w3 ⟨v, rfl, hR, hb⟩; obtain ⟨A, c, rfl, hl, hC⟩ := Kd.R_reads hR; have H1 := Aside0.mk (below_step (below_alloc HB.out _) hb); clear HB hb hR; have HB := H1; have HC := Aside0.mk hC; clear H1 hC) | (go_at_call 23; refine (over_new r1 r2 r3 A _ c _ _ (by decide)).mono ?_; rintro e w4 ⟨rfl, hb⟩; have H1 := Aside0.mk (below_step (below_alloc HB.out _) hb); have H2 := Aside0.mk (Kd.C_below HC.out (below_step (below_alloc (Below.refl _ _) _) hb)); clear HB hb HC; have HB := H1; have HC := H2; clear H1 H2) | (go_at_call 20; refine (action_Same.calls k _ ⟨#[]⟩ false none 0 [] _ ⟨#[]⟩ false none 0 [] true _ (Kd.C_nil _ _) (Nat.le_refl _) (Kd.C_nil _ _) (Nat.le_refl _) HN.out).mono ?_; rintro e w5 ⟨rfl, hb⟩; have H1 := Aside0.mk (below_step (below_alloc HB.out _) hb); clear HB hb; have HB := H1; clear H1))
      go_ret
      exact ⟨rfl, HB.out⟩
  · have hkeep : keepsA a3 := by unfold keepsA; omega
    have g1 : (a3 == 1) = false := beq_eq_false_iff_ne.2 (by omega)
    have g2 : (a3 == 2) = false := beq_eq_false_iff_ne.2 (by omega)
    have g3 : (a3 == 3) = false := beq_eq_false_iff_ne.2 (by omega)
    have g4 : (a3 == 4) = false := beq_eq_false_iff_ne.2 (by omega)
    have g5 : (a3 == 5) = false := beq_eq_false_iff_ne.2 (by omega)
    have g6 : (a3 == 6) = false := beq_eq_false_iff_ne.2 (by omega)
    have HK := Aside0.mk hkeep
    clear hk hkeep
    go_enter Try.func7, Try.ntmps7
    go_wp2_with (first | (go_at_call 13; refine (bolterlaw14_awake.calls k true _ HA.out rfl).mono ?_; rintro e w1 ⟨rfl, hb⟩; have H1 := Aside0.mk (below_step HB.out hb); clear HB hb; have HB := H1; clear H1) | (go_at_call 15; refine (bolterlaw14_Target.calls k a1 A2 c2 l2 t _ (Kd.C_below HR.out HB.out) hc2 HT.out).mono ?_; rintro e w2 ⟨rfl, hb⟩; have H1 := Aside0.mk (below_step HB.out hb); clear HB hb; have HB := H1; clear H1) | (go_at_call 19; refine (action_Of.calls k _ 1 [(⟨(⟨#[]⟩ : ByteArray), 5, 0, t⟩ : S43)] r1 r2 r3 [] r5 _ (oneRec _ _) (Nat.le_refl _) HO.out).mono ?_; rintro e w3 ⟨v, rfl, hR, hb⟩; obtain ⟨A, c, rfl, hl, hC⟩ := Kd.R_reads hR; have H1 := Aside0.mk (below_step (below_alloc HB.out _) hb); clear HB hb hR; have HB := H1; have HC := Aside0.mk hC; clear H1 hC) | (go_at_call 23; refine (over_keep r1 r2 r3 A _ c a3 _ HK.out).mono ?_; rintro e w4 ⟨rfl, hb⟩; have H1 := Aside0.mk (below_step (below_alloc HB.out _) hb); have H2 := Aside0.mk (Kd.C_below HC.out (below_step (below_alloc (Below.refl _ _) _) hb)); have BK := Aside0.mk (blk_alloc (blk_below (blk_new w3 (.cells #[.int .i64 r1, .string r2, .bool r3, .slice A ([] : List S43).length c] 28)) hb) (.cells #[.int .i64 r1, .string r2, .bool r3, .slice A 0 c] 28)); have q0 := (blk_cell BK.out 0).trans (show _ = some (Value.int .i64 r1) from rfl); have q1 := (blk_cell BK.out 1).trans (show _ = some (Value.string r2) from rfl); have q2 := (blk_cell BK.out 2).trans (show _ = some (Value.bool r3) from rfl); have q3 := (blk_cell BK.out 3).trans (show _ = some (Value.slice A 0 c) from rfl); clear HB hb HC; have HB := H1; have HC := H2; clear H1 H2) | (go_at_call 20; refine (action_Same.calls k r1 r2 r3 A c [] r1 r2 r3 A c [] true _ (by exact Kd.C_below HC.out (below_alloc (Below.refl _ _) _)) hl (by exact Kd.C_below HC.out (below_alloc (Below.refl _ _) _)) hl HS.out).mono ?_; rintro e w5 ⟨rfl, hb⟩; have H1 := Aside0.mk (below_step (below_alloc HB.out _) hb); clear HB hb; have HB := H1; clear H1))
    go_ret
    exact ⟨rfl, HB.out⟩
end Go.Proofs.Ytdkjlbbbdjkhbaa.Hand
