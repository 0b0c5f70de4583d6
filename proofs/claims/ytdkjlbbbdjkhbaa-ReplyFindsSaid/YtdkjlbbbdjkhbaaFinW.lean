/- ReplyFinds walked: for all records and numbers. -/
import Derived.Test.YtdkjlbbbdjkhbaaPAllx21
import Derived.Test.YtdkjlbbbdjkhbaaPAllx34
import Derived.Test.YtdkjlbbbdjkhbaaPAllx35
import Derived.Test.YtdkjlbbbdjkhbaaPAllx36
set_option linter.unusedVariables false
namespace Go.Proofs.Ytdkjlbbbdjkhbaa.Hand
open Go.RowKit Go.Proofs.YtdkjlbbbdjkhbaaW.PrintWords Go.Proofs.YtdkjlbbbdjkhbaaW.PrintLast Go.Proofs.Ytdkjlbbbdjkhbaa.PAll
def isAddr (r : S43) : Bool := if r.f1 = 1 then decide (r.f3.size = 4) else if r.f1 = 28 then decide (r.f3.size = 16) else false
def isName (mb : ByteArray → Bool) (r : S43) : Bool := if r.f1 = 2 then mb r.f3 else false
def addrsOf (l : List S43) : List ByteArray := (l.filter isAddr).map (·.f3)
def namesOf (mb : ByteArray → Bool) (l : List S43) : List ByteArray := (l.filter (isName mb)).map (·.f3)
theorem addrs_len (l : List S43) : (addrsOf l).length ≤ l.length := by unfold addrsOf; rw [List.length_map]; exact List.length_filter_le ..
theorem names_len (mb : ByteArray → Bool) (l : List S43) : (namesOf mb l).length ≤ l.length := by unfold namesOf; rw [List.length_map]; exact List.length_filter_le ..
theorem take_addrs (l : List S43) (j : Nat) (hj : j < l.length) (r : S43) (hr : r = l[j]) (b : Bool) (hb : isAddr r = b) : addrsOf (l.take (j + 1)) = addrsOf (l.take j) ++ (if b = true then [r.f3] else []) := by
  subst hr
  unfold addrsOf
  rw [List.take_succ_eq_append_getElem hj, List.filter_append, List.map_append, List.filter_cons, hb]
  cases b <;> rfl
theorem take_names (mb : ByteArray → Bool) (l : List S43) (j : Nat) (hj : j < l.length) (r : S43) (hr : r = l[j]) (b : Bool) (hb : isName mb r = b) : namesOf mb (l.take (j + 1)) = namesOf mb (l.take j) ++ (if b = true then [r.f3] else []) := by
  subst hr
  unfold namesOf
  rw [List.take_succ_eq_append_getElem hj, List.filter_append, List.map_append, List.filter_cons, hb]
  cases b <;> rfl
theorem rdx (l : List S43) (i : Nat) (h : i < l.length) : rd_T43 l (i : Int) = l[i] := by simp [rd_T43, List.getD_eq_getElem?_getD, h]
theorem info25 : (Try.prog.info? 25).map (fun i => (i.zero, i.size, i.bytes)) = some (some (.string ⟨#[]⟩), 1, 16) := by kernel_rfl
theorem take_addrs_true (l : List S43) (j : Nat) (hj : j < l.length) (r : S43) (hr : r = l[j]) (hb : isAddr r = true) : addrsOf (l.take (j + 1)) = addrsOf (l.take j) ++ [r.f3] := take_addrs l j hj r hr true hb
theorem take_addrs_false (l : List S43) (j : Nat) (hj : j < l.length) (r : S43) (hr : r = l[j]) (hb : isAddr r = false) : addrsOf (l.take (j + 1)) = addrsOf (l.take j) := (take_addrs l j hj r hr false hb).trans (List.append_nil _)
theorem take_names_true (mb : ByteArray → Bool) (l : List S43) (j : Nat) (hj : j < l.length) (r : S43) (hr : r = l[j]) (hb : isName mb r = true) : namesOf mb (l.take (j + 1)) = namesOf mb (l.take j) ++ [r.f3] := take_names mb l j hj r hr true hb
theorem take_names_false (mb : ByteArray → Bool) (l : List S43) (j : Nat) (hj : j < l.length) (r : S43) (hr : r = l[j]) (hb : isName mb r = false) : namesOf mb (l.take (j + 1)) = namesOf mb (l.take j) := (take_names mb l j hj r hr false hb).trans (List.append_nil _)
/-- What is known of a list that is looked at. -/
def Fit (k : Nat) (mb : ByteArray → Bool) (l : List S43) : Prop := l.length ≤ 3518437208783 ∧ reply_Addresses.f k l = some (addrsOf l) ∧ reply_Names.f k l = some (namesOf mb l)
set_option maxHeartbeats 4000000 in
set_option maxRecDepth 100000 in
theorem finds_any (k : Nat) (mb : ByteArray → Bool) (A : Option Addr) (c : Nat) (rs : List S43) (B : Option Addr) (d : Nat) (qs : List S86) (recs : List S43) (w : World)
    (hr0 : Kd.C k43 w A rs.length rs) (hcap : rs.length ≤ c) (hr1 : Kd.C k86 w B qs.length qs) (hcap1 : qs.length ≤ d)
    (hW : bolterlaw21_awake.f k = some true) (hR : bolterlaw05_Records.f k qs 20 = some recs) (hM : ∀ s, name_May.f k s = some (mb s)) (h0 : Fit k mb rs) (h1 : Fit k mb recs) :
    Calls Try.prog 12 #[.slice A rs.length c, .slice B qs.length d] w fun e w' => e = .returned (.bool true) ∧ Below w.heap.size w w' := by
  have HR0 := Lib.hid hr0
  have HR1 := Lib.hid hr1
  have HW := Lib.hid hW
  have HRec := Lib.hid hR
  have HM := fun s => Lib.hid (hM s)
  have F0 := Lib.hid h0
  have F1 := Lib.hid h1
  clear hr0 hr1 hW hR hM h0 h1
  go_enter Try.func12, Try.ntmps12
  go_wp2_with (first
    | (go_at_call 24; refine (bolterlaw21_awake.calls k true _ HW.out rfl).mono ?_; rintro e w1 ⟨rfl, hb⟩; have D1 := Lib.hid hb; clear hb)
    | (go_at_call 21; refine (bolterlaw05_Records.calls k B d qs 20 recs _ (Kd.C_below HR1.out D1.out) hcap1 HRec.out).mono ?_; rintro e w2 ⟨v, rfl, hR, hb⟩; have hq := Kd.R_reads hR; obtain ⟨A2, c2, rfl, hc2, hC2⟩ := hq; have HC2 := Lib.hid hC2; have D2 := Lib.hid (below_step D1.out hb); clear hb hR hC2))
  have HG : Hid (∀ i : Nat, i < 2 → ∃ (Al : Option Addr) (cl : Nat) (l : List S43), (w2.alloc (Obj.cells #[Value.slice A rs.length c, Value.slice A2 recs.length c2] 26)).cell? ⟨w2.heap.size, i, none⟩ = some (.slice Al l.length cl) ∧ Kd.C k43 (w2.alloc (Obj.cells #[Value.slice A rs.length c, Value.slice A2 recs.length c2] 26)) Al l.length l ∧ l.length ≤ cl ∧ Fit k mb l) := Lib.hid (fun i hi => by
    rcases (show i = 0 ∨ i = 1 by omega) with rfl | rfl
    · exact ⟨A, c, rs, (blk_cell (blk_new w2 _) 0).trans rfl, Kd.C_alloc (Kd.C_below HR0.out D2.out) _, hcap, F0.out⟩
    · exact ⟨A2, c2, recs, (blk_cell (blk_new w2 _) 1).trans rfl, Kd.C_alloc HC2.out _, hc2, F1.out⟩)
  have D3 := Lib.hid (below_alloc D2.out (Obj.cells #[Value.slice A rs.length c, Value.slice A2 recs.length c2] 26))
  generalize (w2.alloc (Obj.cells #[Value.slice A rs.length c, Value.slice A2 recs.length c2] 26)) = W0 at HG D3 ⊢
  generalize w2.heap.size = g at HG ⊢
  clear F0 F1 HC2 hc2 D1 D2 HR0 HR1 HW HRec hcap hcap1
  have B0 := Lib.hid (Below.refl W0.heap.size W0)
  go_loopw [22] (fun v22 wr => ∃ i : Nat, v22 = .int .i64 (i : Int) ∧ i ≤ 2 ∧ Hid (Below W0.heap.size W0 wr)) (fun v _ => (2 - (intOf v).toNat))
  case atStart => exact ⟨0, rfl, Nat.zero_le _, B0⟩
  case round =>
    obtain ⟨i, rfl, i1, HB⟩ := hrel
    clear B0
    by_cases hi : i < 2
    · have hi' : (i : Int) < 2 := by omega
      obtain ⟨Al, cl, l, hcell, hC, hl, hF⟩ := HG.out i hi
      have HC := Lib.hid hC
      have HF := Lib.hid hF
      have hcl := (HB.out.cell (World.block_lt_of_cell? W0 _ hcell)).trans hcell
      clear hcell hC hF
      go_wp2_with (fail)
      obtain ⟨wo, rfl⟩ : ∃ wo : World, wo = wr := ⟨_, rfl⟩
      have A0 : Hid (Kd.R Kd.string 9 wo wo.heap.size (fun _ => True) (.slice none 0 0) (addrsOf (l.take 0))) := Lib.hid (Kd.R_nil _ _ _ _ _)
      have N0 : Hid (Kd.R Kd.string 25 wo wo.heap.size (fun _ => True) (.slice none 0 0) (namesOf mb (l.take 0))) := Lib.hid (Kd.R_nil _ _ _ _ _)
      have Bo := Lib.hid (Below.refl wo.heap.size wo)
      go_loopw [7, 8, 28] (fun v7 v8 v28 wr => ∃ j : Nat, v28 = .int .i64 (j : Int) ∧ j ≤ l.length ∧ Hid (Kd.R Kd.string 9 wr wo.heap.size (fun _ => True) v7 (addrsOf (l.take j))) ∧ Hid (Kd.R Kd.string 25 wr wo.heap.size (fun _ => True) v8 (namesOf mb (l.take j))) ∧ Hid (Below wo.heap.size wo wr)) (fun _ _ v _ => (l.length - (intOf v).toNat))
      case atStart => exact ⟨0, rfl, Nat.zero_le _, A0, N0, Bo⟩
      case round =>
        obtain ⟨j, rfl, j1, HA, HN, HBi⟩ := hrel
        clear A0 N0 Bo
        by_cases hj : j < l.length
        · have hj' : (j : Int) < (l.length : Int) := by omega
          obtain ⟨ad, e1, x0, x1, x2, x3⟩ := at_T43 HC.out (j : Int) (by omega) hj'
          cases e1
          have hlen := HF.out.1
          have HBt := Lib.hid (below_step HB.out HBi.out)
          have y0 := (HBt.out.cell (World.block_lt_of_cell? W0 _ x0)).trans x0
          have y1 := (HBt.out.cell (World.block_lt_of_cell? W0 _ x1)).trans x1
          have y2 := (HBt.out.cell (World.block_lt_of_cell? W0 _ x2)).trans x2
          have y3 := (HBt.out.cell (World.block_lt_of_cell? W0 _ x3)).trans x3
          have hr := rdx l j hj
          clear x0 x1 x2 x3
          rw [Int.toNat_natCast] at y0 y1 y2 y3
          generalize rd_T43 l (j : Int) = r at y0 y1 y2 y3 hr
          have HLa : Hid (((addrsOf (l.take j)).length + 1) * 16 ≤ 140737488355328) := Lib.hid (by have := addrs_len (l.take j); rw [List.length_take] at this; omega)
          have HLn : Hid (((namesOf mb (l.take j)).length + 1) * 16 ≤ 140737488355328) := Lib.hid (by have := names_len mb (l.take j); rw [List.length_take] at this; omega)
          have q1 : isAddr r = isAddr r := rfl
          have q2 : isName mb r = isName mb r := rfl
          by_cases a1 : r.f1 = 1
          · have n2 : (r.f1 == 2) = false := beq_eq_false_iff_ne.2 (by omega)
            have n28 : (r.f1 == 28) = false := beq_eq_false_iff_ne.2 (by omega)
            have t1 : (r.f1 == 1) = true := beq_iff_eq.2 a1
            by_cases a4 : r.f3.size = 4
            · have t4 : ((r.f3.size : Int) == 4) = true := by rw [beq_iff_eq]; omega
              have EA := Lib.hid (take_addrs_true l j hj r hr (by unfold isAddr; rw [if_pos a1, decide_eq_true a4]))
              have EN := Lib.hid (take_names_false mb l j hj r hr (by unfold isName; rw [if_neg (by omega)]))
              clear hr q1 q2 a1 a4
              go_wp2_with (first | (at_builtin; go_loud (refine Kd.R_append Kd.string (w0 := wo) wo.heap.size rfl (.tmp 52) (.tmp 55) 74 9 (.string ⟨#[]⟩) 16 rfl Try.underlying74 info9 rfl (by decide) (by omega) u7 (addrsOf (l.take j)) r.f3 [.string r.f3] (fun _ => True) (fun _ => False) rfl (by first | (go_simp; done) | (go_simp; rfl)) ?aP (fun _ hk => hk.elim) ?aF ?aO ?aB ?aS ?aL ?_; (case aP => exact rfl); (case aB => exact below_alloc HBi.out _); (case aF => exact (fun _ _ => trivial)); (case aO => exact Kd.R_alloc HA.out _); (case aS => exact below_size (below_alloc HBi.out _)); (case aL => exact HLa.out); intro v2 w3 hR2 hB2 hg2 hat2; have HA2 := Lib.hid hR2; have HN2 := Lib.hid (Kd.R_over (Kd.R_alloc HN.out _) (Kd.R_alloc HA.out _) (by decide) hg2); have HB2 := Lib.hid hB2; have hbr : w3.heap[wr.heap.size]? = _ := (hg2.block wr.heap.size (by simp) (by have := Kd.R_ne_new HA.out 0; simpa using this)).trans (blk_new wr _); have hc1 : w3.cell? ⟨wr.heap.size, 1, none⟩ = some (.int .u16 r.f1) := (blk_cell hbr 1).trans rfl; clear hR2 hB2 hg2 hat2 hbr)))
              refine ⟨⟨j + 1, rfl, by omega, by rw [EA.out]; exact HA2, by rw [EN.out]; exact HN2, HB2⟩, by simp [intOf]; omega⟩
            · have t4 : ((r.f3.size : Int) == 4) = false := by rw [beq_eq_false_iff_ne]; omega
              have EA := Lib.hid (take_addrs_false l j hj r hr (by unfold isAddr; rw [if_pos a1, decide_eq_false a4]))
              have EN := Lib.hid (take_names_false mb l j hj r hr (by unfold isName; rw [if_neg (by omega)]))
              clear hr q1 q2 a1 a4
              go_wp2_with (fail)
              refine ⟨⟨j + 1, rfl, by omega, by rw [EA.out]; exact Lib.hid (Kd.R_alloc HA.out _), by rw [EN.out]; exact Lib.hid (Kd.R_alloc HN.out _), Lib.hid (below_alloc HBi.out _)⟩, by simp [intOf]; omega⟩
          · have t1 : (r.f1 == 1) = false := beq_eq_false_iff_ne.2 a1
            by_cases a28 : r.f1 = 28
            · have n2 : (r.f1 == 2) = false := beq_eq_false_iff_ne.2 (by omega)
              have t28 : (r.f1 == 28) = true := beq_iff_eq.2 a28
              by_cases a16 : r.f3.size = 16
              · have t16 : ((r.f3.size : Int) == 16) = true := by rw [beq_iff_eq]; omega
                have EA := Lib.hid (take_addrs_true l j hj r hr (by unfold isAddr; rw [if_neg a1, if_pos a28, decide_eq_true a16]))
                have EN := Lib.hid (take_names_false mb l j hj r hr (by unfold isName; rw [if_neg (by omega)]))
                clear hr q1 q2 a1 a28 a16
                go_wp2_with (first | (at_builtin; go_loud (refine Kd.R_append Kd.string (w0 := wo) wo.heap.size rfl (.tmp 52) (.tmp 55) 74 9 (.string ⟨#[]⟩) 16 rfl Try.underlying74 info9 rfl (by decide) (by omega) u7 (addrsOf (l.take j)) r.f3 [.string r.f3] (fun _ => True) (fun _ => False) rfl (by first | (go_simp; done) | (go_simp; rfl)) ?aP (fun _ hk => hk.elim) ?aF ?aO ?aB ?aS ?aL ?_; (case aP => exact rfl); (case aB => exact below_alloc HBi.out _); (case aF => exact (fun _ _ => trivial)); (case aO => exact Kd.R_alloc HA.out _); (case aS => exact below_size (below_alloc HBi.out _)); (case aL => exact HLa.out); intro v2 w3 hR2 hB2 hg2 hat2; have HA2 := Lib.hid hR2; have HN2 := Lib.hid (Kd.R_over (Kd.R_alloc HN.out _) (Kd.R_alloc HA.out _) (by decide) hg2); have HB2 := Lib.hid hB2; have hbr : w3.heap[wr.heap.size]? = _ := (hg2.block wr.heap.size (by simp) (by have := Kd.R_ne_new HA.out 0; simpa using this)).trans (blk_new wr _); have hc1 : w3.cell? ⟨wr.heap.size, 1, none⟩ = some (.int .u16 r.f1) := (blk_cell hbr 1).trans rfl; clear hR2 hB2 hg2 hat2 hbr)))
                refine ⟨⟨j + 1, rfl, by omega, by rw [EA.out]; exact HA2, by rw [EN.out]; exact HN2, HB2⟩, by simp [intOf]; omega⟩
              · have t16 : ((r.f3.size : Int) == 16) = false := by rw [beq_eq_false_iff_ne]; omega
                have EA := Lib.hid (take_addrs_false l j hj r hr (by unfold isAddr; rw [if_neg a1, if_pos a28, decide_eq_false a16]))
                have EN := Lib.hid (take_names_false mb l j hj r hr (by unfold isName; rw [if_neg (by omega)]))
                clear hr q1 q2 a1 a28 a16
                go_wp2_with (fail)
                refine ⟨⟨j + 1, rfl, by omega, by rw [EA.out]; exact Lib.hid (Kd.R_alloc HA.out _), by rw [EN.out]; exact Lib.hid (Kd.R_alloc HN.out _), Lib.hid (below_alloc HBi.out _)⟩, by simp [intOf]; omega⟩
            · have t28 : (r.f1 == 28) = false := beq_eq_false_iff_ne.2 a28
              by_cases a2 : r.f1 = 2
              · have t2 : (r.f1 == 2) = true := beq_iff_eq.2 a2
                cases hmb : mb r.f3
                · have HMb := Lib.hid hmb
                  have EA := Lib.hid (take_addrs_false l j hj r hr (by unfold isAddr; rw [if_neg a1, if_neg a28]))
                  have EN := Lib.hid (take_names_false mb l j hj r hr (by unfold isName; rw [if_pos a2, hmb]))
                  clear hr q1 q2 a1 a28 a2 hmb
                  go_wp2_with (first | (go_at_call 18; refine (name_May.calls k r.f3 (mb r.f3) _ (HM r.f3).out).mono ?_; rintro e w4 ⟨rfl, hb⟩; rw [HMb.out]; have HB4 := Lib.hid (below_step (below_alloc HBi.out _) hb); have HA4 := Lib.hid (Kd.R_below (Kd.R_alloc HA.out _) hb); have HN4 := Lib.hid (Kd.R_below (Kd.R_alloc HN.out _) hb); have hbr : w4.heap[wr.heap.size]? = _ := blk_below (blk_new wr _) hb; have hc3 : w4.cell? ⟨wr.heap.size, 3, none⟩ = some (.string r.f3) := (blk_cell hbr 3).trans rfl; clear hb hbr))
                  refine ⟨⟨j + 1, rfl, by omega, by rw [EA.out]; exact HA4, by rw [EN.out]; exact HN4, HB4⟩, by simp [intOf]; omega⟩
                · have HMb := Lib.hid hmb
                  have EA := Lib.hid (take_addrs_false l j hj r hr (by unfold isAddr; rw [if_neg a1, if_neg a28]))
                  have EN := Lib.hid (take_names_true mb l j hj r hr (by unfold isName; rw [if_pos a2, hmb]))
                  clear hr q1 q2 a1 a28 a2 hmb
                  go_wp2_with (first | (go_at_call 18; refine (name_May.calls k r.f3 (mb r.f3) _ (HM r.f3).out).mono ?_; rintro e w4 ⟨rfl, hb⟩; rw [HMb.out]; have HB4 := Lib.hid (below_step (below_alloc HBi.out _) hb); have HA4 := Lib.hid (Kd.R_below (Kd.R_alloc HA.out _) hb); have HN4 := Lib.hid (Kd.R_below (Kd.R_alloc HN.out _) hb); have hbr : w4.heap[wr.heap.size]? = _ := blk_below (blk_new wr _) hb; have hc3 : w4.cell? ⟨wr.heap.size, 3, none⟩ = some (.string r.f3) := (blk_cell hbr 3).trans rfl; clear hb hbr) | (at_builtin; refine Kd.R_append Kd.string (w0 := wo) wo.heap.size rfl (.tmp 65) (.tmp 68) 75 25 (.string ⟨#[]⟩) 16 rfl Try.underlying75 info25 rfl (by decide) (by omega) u8 (namesOf mb (l.take j)) r.f3 [.string r.f3] (fun _ => True) (fun _ => False) rfl rfl ?aP (fun _ hk => hk.elim) ?aF ?aO ?aB ?aS ?aL ?_; (case aP => exact rfl); (case aB => exact HB4.out); (case aF => exact (fun _ _ => trivial)); (case aO => exact HN4.out); (case aS => exact below_size HB4.out); (case aL => exact HLn.out); intro v3 w5 hR3 hB3 hg3 hat3; have HN5 := Lib.hid hR3; have HA5 := Lib.hid (Kd.R_over HA4.out HN4.out (by decide) hg3); have HB5 := Lib.hid hB3; clear hR3 hB3 hg3 hat3))
                  refine ⟨⟨j + 1, rfl, by omega, by rw [EA.out]; exact HA5, by rw [EN.out]; exact HN5, HB5⟩, by simp [intOf]; omega⟩
              · have t2 : (r.f1 == 2) = false := beq_eq_false_iff_ne.2 a2
                have EA := Lib.hid (take_addrs_false l j hj r hr (by unfold isAddr; rw [if_neg a1, if_neg a28]))
                have EN := Lib.hid (take_names_false mb l j hj r hr (by unfold isName; rw [if_neg a2]))
                clear hr q1 q2 a1 a28 a2
                go_wp2_with (fail)
                refine ⟨⟨j + 1, rfl, by omega, by rw [EA.out]; exact Lib.hid (Kd.R_alloc HA.out _), by rw [EN.out]; exact Lib.hid (Kd.R_alloc HN.out _), Lib.hid (below_alloc HBi.out _)⟩, by simp [intOf]; omega⟩
        · obtain rfl : j = l.length := by omega
          rw [List.take_of_length_le (Nat.le_refl _)] at HA HN
          have hA := Kd.R_reads HA.out
          have hN := Kd.R_reads HN.out
          have hla := addrs_len l
          have hln := names_len mb l
          have hlen := HF.out.1
          have HFA := Lib.hid HF.out.2.1
          have HFN := Lib.hid HF.out.2.2
          have HBt := Lib.hid (below_step HB.out HBi.out)
          clear HA HN HF HBi hj j1
          generalize addrsOf l = xs at hA HFA hla
          generalize namesOf mb l = ys at hN HFN hln
          obtain ⟨A7, c7, rfl, hc7, hC7⟩ := hA
          obtain ⟨A8, c8, rfl, hc8, hC8⟩ := hN
          have HC7 := Lib.hid hC7
          have HC8 := Lib.hid hC8
          clear hC7 hC8
          go_wp2_with (first
            | (go_at_call 34; refine (reply_Addresses.calls k Al cl l xs _ (Kd.C_below HC.out HBt.out) hl HFA.out).mono ?_; rintro e w6 ⟨v, rfl, hR, hb⟩; have hq := Kd.R_reads hR; obtain ⟨A11, c11, rfl, hc11, hC11⟩ := hq; have HC11 := Lib.hid hC11; have HB6 := Lib.hid (below_step HBt.out hb); have HC76 := Lib.hid (Kd.C_below HC7.out hb); have HC86 := Lib.hid (Kd.C_below HC8.out hb); clear hb hR hC11)
            | (go_at_call 35; refine (reply_Names.calls k Al cl l ys _ (Kd.C_below HC.out HB6.out) hl HFN.out).mono ?_; rintro e w7 ⟨v, rfl, hR, hb⟩; have hq := Kd.R_reads hR; obtain ⟨A12, c12, rfl, hc12, hC12⟩ := hq; have HC12 := Lib.hid hC12; have HB7 := Lib.hid (below_step HB6.out hb); have HC77 := Lib.hid (Kd.C_below HC76.out hb); have HC87 := Lib.hid (Kd.C_below HC86.out hb); have HC117 := Lib.hid (Kd.C_below HC11.out hb); clear hb hR hC12))
          clear HC7 HC8 HC76 HC86 HC11 HFA HFN HBt HB6
          have B7 := Lib.hid (Below.refl w7.heap.size w7)
          go_loopw [89] (fun v89 wr => ∃ m : Nat, v89 = .int .i64 (m : Int) ∧ m ≤ xs.length ∧ Hid (Below w7.heap.size w7 wr)) (fun v _ => (xs.length - (intOf v).toNat))
          case atStart => exact ⟨0, rfl, Nat.zero_le _, B7⟩
          case round =>
            obtain ⟨m, rfl, m1, HBm⟩ := hrel
            clear B7
            by_cases hm : m < xs.length
            · have hm' : (m : Int) < (xs.length : Int) := by omega
              obtain ⟨ad1, e1, x1⟩ := Kd.at_string (Kd.C_below HC117.out HBm.out) (m : Int) (by omega) hm'
              obtain ⟨ad2, e2, x2⟩ := Kd.at_string (Kd.C_below HC77.out HBm.out) (m : Int) (by omega) hm'
              cases e1
              cases e2
              rw [Int.toNat_natCast] at x1 x2
              generalize rdOf ByteArray.empty xs (m : Int) = t at x1 x2
              go_wp2_with (fail)
              go_quiet (fail)
              go_wp2_with (fail)
              refine ⟨⟨m + 1, rfl, by omega, Lib.hid (pw_below_drewN HBm.out _)⟩, by simp [intOf]; omega⟩
            · obtain rfl : m = xs.length := by omega
              clear hm
              go_wp2_with (fail)
              go_loopw [104] (fun v104 wr => ∃ m : Nat, v104 = .int .i64 (m : Int) ∧ m ≤ ys.length ∧ Hid (Below w7.heap.size w7 wr)) (fun v _ => (ys.length - (intOf v).toNat))
              case atStart => exact ⟨0, rfl, Nat.zero_le _, HBm⟩
              case round =>
                obtain ⟨m, rfl, m1, HBn⟩ := hrel
                clear HBm
                by_cases hm : m < ys.length
                · have hm' : (m : Int) < (ys.length : Int) := by omega
                  obtain ⟨ad1, e1, x1⟩ := Kd.at_string (Kd.C_below HC12.out HBn.out) (m : Int) (by omega) hm'
                  obtain ⟨ad2, e2, x2⟩ := Kd.at_string (Kd.C_below HC87.out HBn.out) (m : Int) (by omega) hm'
                  cases e1
                  cases e2
                  rw [Int.toNat_natCast] at x1 x2
                  generalize rdOf ByteArray.empty ys (m : Int) = t at x1 x2
                  go_wp2_with (fail)
                  go_quiet (fail)
                  go_wp2_with (fail)
                  refine ⟨⟨m + 1, rfl, by omega, Lib.hid (pw_below_drewN HBn.out _)⟩, by simp [intOf]; omega⟩
                · obtain rfl : m = ys.length := by omega
                  clear hm
                  go_wp2_with (fail)
                  refine ⟨⟨i + 1, rfl, by omega, Lib.hid (below_step HB7.out HBn.out)⟩, by simp [intOf]; omega⟩
    · obtain rfl : i = 2 := by omega
      clear hi i1
      go_wp2_with (fail)
      go_ret
      exact ⟨rfl, below_step D3.out HB.out⟩
end Go.Proofs.Ytdkjlbbbdjkhbaa.Hand
