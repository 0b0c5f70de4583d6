/- The walk of the law PrefixMay: for every prefix and every text. -/
import Derived.Test.YtbnmpopcnpjjdaaPreL
import Derived.Test.YtbnmpopcnpjjdaaPPrex1
set_option linter.unusedVariables false
namespace Go.Proofs.Ytbnmpopcnpjjdaa.PreL
open Go.RowKit Go.Proofs.Ytbnmpopcnpjjdaa.PPre Go.Proofs.Ytbnmpopcnpjjdaa.PBase0 Go.Proofs.Ytbnmpopcnpjjdaa.Hand Go.Proofs.YtbnmpopcnpjjdaaW.PrintWords Go.Proofs.YtbnmpopcnpjjdaaW.PrintLast Go.Proofs.YtbnmpopcnpjjdaaW.PrintMore
attribute [local go_sem high] PPre.eqA39

set_option maxHeartbeats 4000000 in
set_option maxRecDepth 100000 in
theorem may_yes (a0 : ByteArray) (a1 : Int) (x : ByteArray) (hC : prefix_Cut.f a0 a1 = some (a0, a1, true)) (hM : prefix_May.f a0 a1 = some true) (w : World) :
    Calls Try.prog 10 #[.agg #[.string a0, .int .i64 a1], .string x] w fun e w' => e = .returned (.bool true) ∧ Below w.heap.size w w' := by
  have HC := Lib.hid hC
  have HM := Lib.hid hM
  clear hC hM
  go_enter Try.func10, Try.ntmps10
  go_wp2_with (go_at_call 19; refine (bolterlaw12_awake.calls true _ awake_eq).mono ?_)
  rintro e w1 ⟨rfl, hb1⟩
  have BX1 := Lib.hid (blk_below (heap_alloc_new w (.cells #[.string a0, .int .i64 a1] 39)) hb1)
  have HB1 : Hid (Below w.heap.size w w1) := Lib.hid (below_then ((Below.refl _ _).alloc (Nat.le_refl _) _) (by simp) hb1)
  have c0 : w1.cell? ⟨w.heap.size, 0, none⟩ = some (.string a0) := (blk_cell BX1.out 0).trans rfl
  have c1 : w1.cell? ⟨w.heap.size, 1, none⟩ = some (.int .i64 a1) := (blk_cell BX1.out 1).trans rfl
  clear hb1
  go_wp2_with (go_at_call 21; refine (prefix_Cut.calls a0 a1 a0 a1 true _ HC.out).mono ?_)
  rintro e w2 ⟨rfl, hb2⟩
  have BX2 := Lib.hid (blk_below BX1.out hb2)
  have hlt : w.heap.size < w2.heap.size := blk_lt BX2.out
  have HB2 : Hid (Below w.heap.size w w2) := Lib.hid (HB1.out.trans (hb2.mono (Nat.le_of_lt (blk_lt BX1.out))))
  clear c0 c1 BX1 HB1 hb2
  have BX3 := Lib.hid (blk_alloc BX2.out (.cells #[.string a0, .int .i64 a1] 39))
  have d0 : (w2.alloc (.cells #[.string a0, .int .i64 a1] 39)).cell? ⟨w.heap.size, 0, none⟩ = some (.string a0) := (blk_cell BX3.out 0).trans rfl
  have d1 : (w2.alloc (.cells #[.string a0, .int .i64 a1] 39)).cell? ⟨w.heap.size, 1, none⟩ = some (.int .i64 a1) := (blk_cell BX3.out 1).trans rfl
  have HB3 : Hid (Below w.heap.size w (w2.alloc (.cells #[.string a0, .int .i64 a1] 39))) := Lib.hid (HB2.out.alloc (Nat.le_of_lt hlt) _)
  have hl3 : w.heap.size ≤ (w2.alloc (.cells #[.string a0, .int .i64 a1] 39)).heap.size := by simp; omega
  have HL3 := Lib.hid hl3
  clear hl3
  go_wp2_with (go_at_call 24; refine (prefix_May.calls a0 a1 true _ HM.out).mono ?_)
  rintro e w4 ⟨rfl, hb4⟩
  go_wp2_with (fail)
  go_ret
  exact ⟨rfl, HB3.out.trans (hb4.mono HL3.out)⟩

set_option maxHeartbeats 4000000 in
set_option maxRecDepth 100000 in
theorem may_no (a0 : ByteArray) (a1 : Int) (x : ByteArray) (r1 : ByteArray) (r2 : Int) (hC : prefix_Cut.f a0 a1 = some (r1, r2, true)) (hne : (r1.toList == a0.toList && (r2 == a1)) = false) (hM : prefix_May.f a0 a1 = some false) (hH : prefix_Has.f a0 a1 x = some false) (hK : prefix_Key.f a0 a1 = some (⟨#[]⟩ : ByteArray)) (w : World) :
    Calls Try.prog 10 #[.agg #[.string a0, .int .i64 a1], .string x] w fun e w' => e = .returned (.bool true) ∧ Below w.heap.size w w' := by
  have HC := Lib.hid hC
  have HM := Lib.hid hM
  have HH := Lib.hid hH
  have HK := Lib.hid hK
  clear hC hM hH hK
  go_enter Try.func10, Try.ntmps10
  go_wp2_with (go_at_call 19; refine (bolterlaw12_awake.calls true _ awake_eq).mono ?_)
  rintro e w1 ⟨rfl, hb1⟩
  have BX1 := Lib.hid (blk_below (heap_alloc_new w (.cells #[.string a0, .int .i64 a1] 39)) hb1)
  have HB1 : Hid (Below w.heap.size w w1) := Lib.hid (below_then ((Below.refl _ _).alloc (Nat.le_refl _) _) (by simp) hb1)
  have c0 : w1.cell? ⟨w.heap.size, 0, none⟩ = some (.string a0) := (blk_cell BX1.out 0).trans rfl
  have c1 : w1.cell? ⟨w.heap.size, 1, none⟩ = some (.int .i64 a1) := (blk_cell BX1.out 1).trans rfl
  clear hb1
  go_wp2_with (go_at_call 21; refine (prefix_Cut.calls a0 a1 r1 r2 true _ HC.out).mono ?_)
  rintro e w2 ⟨rfl, hb2⟩
  have BX2 := Lib.hid (blk_below BX1.out hb2)
  have hlt : w.heap.size < w2.heap.size := blk_lt BX2.out
  have HB2 : Hid (Below w.heap.size w w2) := Lib.hid (HB1.out.trans (hb2.mono (Nat.le_of_lt (blk_lt BX1.out))))
  clear c0 c1 BX1 HB1 hb2
  have BX3 := Lib.hid (blk_alloc BX2.out (.cells #[.string r1, .int .i64 r2] 39))
  have d0 : (w2.alloc (.cells #[.string r1, .int .i64 r2] 39)).cell? ⟨w.heap.size, 0, none⟩ = some (.string a0) := (blk_cell BX3.out 0).trans rfl
  have d1 : (w2.alloc (.cells #[.string r1, .int .i64 r2] 39)).cell? ⟨w.heap.size, 1, none⟩ = some (.int .i64 a1) := (blk_cell BX3.out 1).trans rfl
  have HB3 : Hid (Below w.heap.size w (w2.alloc (.cells #[.string r1, .int .i64 r2] 39))) := Lib.hid (HB2.out.alloc (Nat.le_of_lt hlt) _)
  have hl3 : w.heap.size ≤ (w2.alloc (.cells #[.string r1, .int .i64 r2] 39)).heap.size := by simp; omega
  have HL3 := Lib.hid hl3
  clear hl3
  go_wp2_with (go_at_call 24; refine (prefix_May.calls a0 a1 false _ HM.out).mono ?_)
  rintro e w4 ⟨rfl, hb4⟩
  have BX4 := Lib.hid (blk_below BX3.out hb4)
  have HB4 : Hid (Below w.heap.size w w4) := Lib.hid (HB3.out.trans (hb4.mono HL3.out))
  have e0 : w4.cell? ⟨w.heap.size, 0, none⟩ = some (.string a0) := (blk_cell BX4.out 0).trans rfl
  have e1 : w4.cell? ⟨w.heap.size, 1, none⟩ = some (.int .i64 a1) := (blk_cell BX4.out 1).trans rfl
  clear d0 d1 BX3 HB3 HL3 hb4
  go_wp2_with (go_at_call 25; refine (prefix_Has.calls a0 a1 x false _ HH.out).mono ?_)
  rintro e w5 ⟨rfl, hb5⟩
  have BX5 := Lib.hid (blk_below BX4.out hb5)
  have HB5 : Hid (Below w.heap.size w w5) := Lib.hid (HB4.out.trans (hb5.mono (Nat.le_of_lt (blk_lt BX4.out))))
  have f0 : w5.cell? ⟨w.heap.size, 0, none⟩ = some (.string a0) := (blk_cell BX5.out 0).trans rfl
  have f1 : w5.cell? ⟨w.heap.size, 1, none⟩ = some (.int .i64 a1) := (blk_cell BX5.out 1).trans rfl
  clear e0 e1 BX4 HB4 hb5
  go_wp2_with (go_at_call 26; refine (prefix_Key.calls a0 a1 (⟨#[]⟩ : ByteArray) _ HK.out).mono ?_)
  rintro e w6 ⟨rfl, hb6⟩
  go_wp2_with (fail)
  go_ret
  exact ⟨rfl, HB5.out.trans (hb6.mono (Nat.le_of_lt (blk_lt BX5.out)))⟩

set_option maxHeartbeats 4000000 in
set_option maxRecDepth 100000 in
theorem may_none (a0 : ByteArray) (a1 : Int) (x : ByteArray) (r1 : ByteArray) (r2 : Int) (hC : prefix_Cut.f a0 a1 = some (r1, r2, false)) (hM : prefix_May.f a0 a1 = some false) (hH : prefix_Has.f a0 a1 x = some false) (hK : prefix_Key.f a0 a1 = some (⟨#[]⟩ : ByteArray)) (w : World) :
    Calls Try.prog 10 #[.agg #[.string a0, .int .i64 a1], .string x] w fun e w' => e = .returned (.bool true) ∧ Below w.heap.size w w' := by
  have HC := Lib.hid hC
  have HM := Lib.hid hM
  have HH := Lib.hid hH
  have HK := Lib.hid hK
  clear hC hM hH hK
  go_enter Try.func10, Try.ntmps10
  go_wp2_with (go_at_call 19; refine (bolterlaw12_awake.calls true _ awake_eq).mono ?_)
  rintro e w1 ⟨rfl, hb1⟩
  have BX1 := Lib.hid (blk_below (heap_alloc_new w (.cells #[.string a0, .int .i64 a1] 39)) hb1)
  have HB1 : Hid (Below w.heap.size w w1) := Lib.hid (below_then ((Below.refl _ _).alloc (Nat.le_refl _) _) (by simp) hb1)
  have c0 : w1.cell? ⟨w.heap.size, 0, none⟩ = some (.string a0) := (blk_cell BX1.out 0).trans rfl
  have c1 : w1.cell? ⟨w.heap.size, 1, none⟩ = some (.int .i64 a1) := (blk_cell BX1.out 1).trans rfl
  clear hb1
  go_wp2_with (go_at_call 21; refine (prefix_Cut.calls a0 a1 r1 r2 false _ HC.out).mono ?_)
  rintro e w2 ⟨rfl, hb2⟩
  have BX2 := Lib.hid (blk_below BX1.out hb2)
  have hlt : w.heap.size < w2.heap.size := blk_lt BX2.out
  have HB2 : Hid (Below w.heap.size w w2) := Lib.hid (HB1.out.trans (hb2.mono (Nat.le_of_lt (blk_lt BX1.out))))
  clear c0 c1 BX1 HB1 hb2
  have BX3 := Lib.hid (blk_alloc BX2.out (.cells #[.string r1, .int .i64 r2] 39))
  have d0 : (w2.alloc (.cells #[.string r1, .int .i64 r2] 39)).cell? ⟨w.heap.size, 0, none⟩ = some (.string a0) := (blk_cell BX3.out 0).trans rfl
  have d1 : (w2.alloc (.cells #[.string r1, .int .i64 r2] 39)).cell? ⟨w.heap.size, 1, none⟩ = some (.int .i64 a1) := (blk_cell BX3.out 1).trans rfl
  have HB3 : Hid (Below w.heap.size w (w2.alloc (.cells #[.string r1, .int .i64 r2] 39))) := Lib.hid (HB2.out.alloc (Nat.le_of_lt hlt) _)
  have hl3 : w.heap.size ≤ (w2.alloc (.cells #[.string r1, .int .i64 r2] 39)).heap.size := by simp; omega
  have HL3 := Lib.hid hl3
  clear hl3
  go_wp2_with (go_at_call 24; refine (prefix_May.calls a0 a1 false _ HM.out).mono ?_)
  rintro e w4 ⟨rfl, hb4⟩
  have BX4 := Lib.hid (blk_below BX3.out hb4)
  have HB4 : Hid (Below w.heap.size w w4) := Lib.hid (HB3.out.trans (hb4.mono HL3.out))
  have e0 : w4.cell? ⟨w.heap.size, 0, none⟩ = some (.string a0) := (blk_cell BX4.out 0).trans rfl
  have e1 : w4.cell? ⟨w.heap.size, 1, none⟩ = some (.int .i64 a1) := (blk_cell BX4.out 1).trans rfl
  clear d0 d1 BX3 HB3 HL3 hb4
  go_wp2_with (go_at_call 25; refine (prefix_Has.calls a0 a1 x false _ HH.out).mono ?_)
  rintro e w5 ⟨rfl, hb5⟩
  have BX5 := Lib.hid (blk_below BX4.out hb5)
  have HB5 : Hid (Below w.heap.size w w5) := Lib.hid (HB4.out.trans (hb5.mono (Nat.le_of_lt (blk_lt BX4.out))))
  have f0 : w5.cell? ⟨w.heap.size, 0, none⟩ = some (.string a0) := (blk_cell BX5.out 0).trans rfl
  have f1 : w5.cell? ⟨w.heap.size, 1, none⟩ = some (.int .i64 a1) := (blk_cell BX5.out 1).trans rfl
  clear e0 e1 BX4 HB4 hb5
  go_wp2_with (go_at_call 26; refine (prefix_Key.calls a0 a1 (⟨#[]⟩ : ByteArray) _ HK.out).mono ?_)
  rintro e w6 ⟨rfl, hb6⟩
  go_wp2_with (fail)
  go_ret
  exact ⟨rfl, HB5.out.trans (hb6.mono (Nat.le_of_lt (blk_lt BX5.out)))⟩

theorem may_law (a0 : ByteArray) (a1 : Int) (x : ByteArray) (w : World) :
    Calls Try.prog 10 #[.agg #[.string a0, .int .i64 a1], .string x] w fun e w' => e = .returned (.bool true) ∧ Below w.heap.size w w' := by
  have key_no : ¬ (IsAdr a0 ∧ 0 ≤ a1 ∧ a1 ≤ 8 * (a0.size : Int) ∧ cutS a0 a1 = a0) → prefix_May.f a0 a1 = some false ∧ prefix_Has.f a0 a1 x = some false ∧ prefix_Key.f a0 a1 = some (⟨#[]⟩ : ByteArray) := by
    intro h
    refine ⟨by rw [may_eq, decide_eq_false h], ?_, by rw [key_eq, if_neg h]⟩
    rw [has_eq]
    congr 1
    rw [decide_eq_false_iff_not]
    exact fun k => h k.2.1
  by_cases c : IsAdr a0 ∧ 0 ≤ a1 ∧ a1 ≤ 8 * (a0.size : Int)
  · by_cases e : cutS a0 a1 = a0
    · have h : IsAdr a0 ∧ 0 ≤ a1 ∧ a1 ≤ 8 * (a0.size : Int) ∧ cutS a0 a1 = a0 := ⟨c.1, c.2.1, c.2.2, e⟩
      exact may_yes a0 a1 x (by rw [cut_eq, if_pos c, e]) (by rw [may_eq, decide_eq_true h]) w
    · obtain ⟨h1, h2, h3⟩ := key_no (fun h => e h.2.2.2)
      exact may_no a0 a1 x (cutS a0 a1) a1 (by rw [cut_eq, if_pos c]) (by rw [toList_eq, decide_eq_false e]; rfl) h1 h2 h3 w
  · obtain ⟨h1, h2, h3⟩ := key_no (fun h => c ⟨h.1, h.2.1, h.2.2.1⟩)
    exact may_none a0 a1 x _ _ (by rw [cut_eq, if_neg c]) h1 h2 h3 w
end Go.Proofs.Ytbnmpopcnpjjdaa.PreL
