/- The statement NameMake walked: for every list of texts. -/
import Derived.Test.YtihlimbdgipdeaaHandM
import Derived.Test.YtihlimbdgipdeaaNamW
import Derived.Test.YtihlimbdgipdeaaPNamx17
set_option linter.unusedVariables false
namespace Go.Proofs.Ytihlimbdgipdeaa.Hand
open Go.RowKit Go.Proofs.YtihlimbdgipdeaaW.PrintWords Go.Proofs.YtihlimbdgipdeaaW.PrintLast Go.Proofs.Ytihlimbdgipdeaa.PNam Go.Proofs.Ytihlimbdgipdeaa.PBase0

/-! ### what the statement reckons -/
def mkStep (st : Bool × ByteArray) (l : ByteArray) : Bool × ByteArray :=
  if st.1 = true ∧ 0 < l.size ∧ l.size ≤ 63 then (true, (st.2 ++ (⟨#[UInt8.ofNat l.size]⟩ : ByteArray)) ++ foldS l) else (false, st.2)
def mkState (ls : List ByteArray) : Bool × ByteArray := ls.foldl mkStep (true, ⟨#[]⟩)
theorem mkState_succ (ls : List ByteArray) (k : Nat) (h : k < ls.length) : mkState (ls.take (k + 1)) = mkStep (mkState (ls.take k)) ls[k] := by
  unfold mkState
  rw [List.take_succ_eq_append_getElem h, List.foldl_append]
  rfl
theorem mkStep_size (st : Bool × ByteArray) (l : ByteArray) : (mkStep st l).2.size ≤ st.2.size + 64 := by
  unfold mkStep
  split
  · rename_i h
    rw [ByteArray.size_append, ByteArray.size_append, foldS_size]
    show st.2.size + 1 + l.size ≤ _
    omega
  · exact Nat.le_add_right _ _
theorem mkState_size (ls : List ByteArray) : ∀ k, k ≤ ls.length → (mkState (ls.take k)).2.size ≤ 64 * k
  | 0, _ => Nat.le_refl _
  | k + 1, h => by
    rw [mkState_succ ls k (by omega)]
    have h1 := mkStep_size (mkState (ls.take k)) ls[k]
    have h2 := mkState_size ls k (by omega)
    omega
theorem one_string (W : World) (n : Nat) (hn : n ≤ 63) : (convert 25 9 (.slice (some ⟨W.heap.size, 0, none⟩) 1 1)).run Try.prog (W.alloc (.cells #[.int .u8 (n : Int)] 5)) = .ok (.string ⟨#[UInt8.ofNat n]⟩) (W.alloc (.cells #[.int .u8 (n : Int)] 5)) := by
  have hr : ReadsInt (W.alloc (.cells #[.int .u8 (n : Int)] 5)) .u8 (some ⟨W.heap.size, 0, none⟩) 1 [(n : Int)] := by
    refine ⟨rfl, by decide, fun _ => ⟨_, rfl, fun i hi => ?_⟩⟩
    obtain rfl : i = 0 := by omega
    simp [Addr.add]
  have := string_of_reads (c := 1) Try.underlying25 Try.underlying5 Try.underlying9 hr
  rw [this]
  have e : strOfNums [(n : Int)] = ⟨#[UInt8.ofNat n]⟩ := by
    unfold strOfNums
    simp
  rw [e]

theorem byt_string {g : Nat} {W : World} {l : ByteArray} {cap : Nat} (h : Byt 5 g W (foldTo (bytesOf l) l.size)) (hl : (foldTo (bytesOf l) l.size).length ≤ 140737488351232) :
    (convert 25 9 (.slice (some ⟨g, 0, none⟩) l.size cap)).run Try.prog W = .ok (.string (foldS l)) W := by
  have h1 := h.reads (by unfold maxLen; omega)
  rw [foldTo_length, bytesOf_length] at h1
  have h2 := string_of_reads (c := cap) Try.underlying25 Try.underlying5 Try.underlying9 h1
  rw [h2]
  have e : foldTo (bytesOf l) l.size = (bytesOf l).map foldI := by
    have := foldTo_all (bytesOf l)
    rw [bytesOf_length] at this
    exact this
  rw [e]
  rfl
theorem byt_alloc {g : Nat} {W : World} {xs : List Int} (h : Byt 5 g W xs) (o : Obj) : Byt 5 g (W.alloc o) xs := h.keep (Below.heap_alloc W o g h.lt)
theorem byt_ne {g : Nat} {W : World} {xs : List Int} {base : Nat} {ok : Nat → Prop} {v : Value} {ys : List ByteArray} (h : Byt 5 g W xs) (hr : Kd.R Kd.string 9 W base ok v ys) : some g ≠ v.ownBlock := by
  intro e
  obtain ⟨inner, ho⟩ := Kd.R_own hr
  obtain ⟨cells, hc⟩ := own_typed ho g e.symm
  obtain ⟨cs, hb, _⟩ := h
  rw [hb] at hc
  injection hc with hc
  injection hc with _ hc _
  cases hc
/-- What is known where the labels are through. -/
def Tail (k : Nat) (ls : List ByteArray) : Prop :=
  (((mkState ls).1 = false ∨ 254 < (mkState ls).2.size) ∧ makeGo ls [] = (⟨#[]⟩, false)) ∨
  ((mkState ls).1 = true ∧ (mkState ls).2.size ≤ 254 ∧ makeGo ls [] = ((mkState ls).2, true) ∧ name_Labels.f k (mkState ls).2 = some (ls.map foldS, true) ∧ bolterlaw02_same.f k (ls.map foldS) (ls.map foldS) = some true ∧ name_Count.f k (mkState ls).2 = some (ls.length : Int))
set_option maxHeartbeats 8000000 in
set_option maxRecDepth 100000 in
theorem nmake_any (kk : Nat) (A : Option Addr) (c : Nat) (ls : List ByteArray) (w : World) (hr0 : Kd.C Kd.string w A ls.length ls) (hcap : ls.length ≤ c) (hlen : ls.length * 16 ≤ 140737488351232) (hsz : ∀ l ∈ ls, l.size ≤ 140737488351232) (hA : bolterlaw02_awake.f kk = some true) (hT : Tail kk ls) :
    Calls Try.prog 5 #[.slice A ls.length c] w fun e w' => e = .returned (.bool true) ∧ Below w.heap.size w w' := by
  have HR := Lib.hid hr0
  have HA := Lib.hid hA
  have HT := Lib.hid hT
  have HZ := Lib.hid hsz
  clear hr0 hA hT hsz
  go_enter Try.func5, Try.ntmps5
  go_wp2_with (go_at_call 11; refine (bolterlaw02_awake.calls kk true _ HA.out).mono ?_; rintro e w1 ⟨rfl, hb⟩; have HB := Lib.hid hb; clear hb)
  have D0 : Hid (Kd.R Kd.string 9 w1 w.heap.size (fun _ => True) (.slice none 0 0) ((ls.take 0).map foldS)) := Lib.hid (Kd.R_nil _ _ _ _ _)
  go_loopw [3, 4, 5, 19] (fun v3 v4 v5 v19 wr => ∃ (k : Nat), v3 = .string (mkState (ls.take k)).2 ∧ v4 = .bool (mkState (ls.take k)).1 ∧ v19 = .int .i64 (k : Int) ∧ k ≤ ls.length ∧ Hid (Kd.R Kd.string 9 wr w.heap.size (fun _ => True) v5 ((ls.take k).map foldS)) ∧ Hid (Below w.heap.size w wr)) (fun _ _ _ v _ => (ls.length - (intOf v).toNat))
  case atStart => exact ⟨0, rfl, rfl, rfl, Nat.zero_le _, D0, HB⟩
  case round =>
    obtain ⟨k, rfl, rfl, rfl, k1, HLw, HD⟩ := hrel
    clear D0 HB
    by_cases hlt : k < ls.length
    · obtain ⟨ad, rfl, hcell⟩ := Kd.at_string (Kd.C_below HR.out HD.out) (k : Int) (by omega) (by omega)
      have el : rdOf ByteArray.empty ls (k : Int) = ls[k] := by simp [rdOf, List.getD_eq_getElem?_getD, hlt]
      rw [el, Int.toNat_natCast] at hcell
      have hS := mkState_succ ls k hlt
      have hW := mkState_size ls k (by omega)
      have hF : (ls.take (k + 1)).map foldS = (ls.take k).map foldS ++ [foldS ls[k]] := by rw [List.take_succ_eq_append_getElem hlt, List.map_append]; rfl
      have hz := HZ.out ls[k] (List.getElem_mem hlt)
      clear el
      generalize ls[k] = l at hcell hS hF hz
      have HSz : Hid (l.size ≤ 140737488351232) := Lib.hid hz
      have HS := Lib.hid hS
      have HF := Lib.hid hF
      have HLim : Hid ((((ls.take k).map foldS).length + 1) * 16 ≤ 140737488355328) := Lib.hid (by rw [List.length_map, List.length_take]; omega)
      clear hS hF
      have kb := fun W => print_bytes (P := Try.prog) 9 25 5 Try.underlying9 Try.underlying25 Try.underlying5 l W
      go_wp2_with (fail)
      clear kb hcell
      have B0 : Hid (Byt 5 wr.heap.size (Lib.bytesWorld wr 5 l) (foldTo (bytesOf l) 0)) := Lib.hid (by rw [foldTo_zero]; exact Byt.made wr 5 l)
      have E0 : Hid (Below wr.heap.size wr (Lib.bytesWorld wr 5 l)) := Lib.hid (bytes_below (Below.refl _ _) (Nat.le_refl _) 5 l)
      generalize Lib.bytesWorld wr 5 l = W0 at B0 E0 ⊢
      generalize grownCap wr l.size 0 5 = cap
      obtain ⟨wo, rfl⟩ : ∃ wo : World, wo = wr := ⟨_, rfl⟩
      go_loopw [27] (fun v wr => ∃ j : Nat, v = .int .i64 (j : Int) ∧ j ≤ l.size ∧ Hid (Byt 5 wo.heap.size wr (foldTo (bytesOf l) j)) ∧ Hid (Below wo.heap.size wo wr)) (fun v _ => (l.size - (intOf v).toNat))
      case atStart => exact ⟨0, rfl, Nat.zero_le _, B0, E0⟩
      case round =>
        obtain ⟨j, rfl, j1, HBy, HE⟩ := hrel
        clear B0 E0
        have hl : (bytesOf l).length = l.size := bytesOf_length l
        by_cases hjt : j < l.size
        · have hj : j < (foldTo (bytesOf l) j).length := by rw [foldTo_length, hl]; exact hjt
          have hcell := HBy.out.cell j hj
          have hfz := HBy.out.frozen j hj
          have ⟨r0, r1⟩ := bt_range l (j : Int)
          have HG := Lib.hid (foldTo_get (bytesOf l) j (by rw [hl]; exact hjt))
          rw [HG.out] at hcell
          have er : (bytesOf l).getD j 0 = bt l (j : Int) := by rw [← rd_bytesOf]; simp [rd]
          have HS2 := Lib.hid (foldTo_succ (bytesOf l) j (by rw [hl]; exact hjt))
          rw [er] at hcell HS2
          have HG2 : Hid ((foldTo (bytesOf l) j).getD j 0 = bt l (j : Int)) := Lib.hid (by rw [HG.out, er])
          generalize bt l (j : Int) = cc at hcell HS2 r0 r1 HG2
          have HJ := Lib.hid hj
          clear er hj hl HG
          by_cases up : 65 ≤ cc ∧ cc ≤ 90
          · obtain ⟨u1, u2⟩ := up
            have e32 : foldI cc = cc + 32 := by unfold foldI; rw [if_pos ⟨u1, u2⟩]
            rw [e32] at HS2
            go_wp2_with (fail)
            refine ⟨⟨j + 1, rfl, by omega, ?_, ?_⟩, by simp [intOf]; omega⟩
            · rw [← HS2.out]; exact Lib.hid (HBy.out.set _ _)
            · exact Lib.hid (HE.out.setCell (p := ⟨wo.heap.size, _, none⟩) (Nat.le_refl _) _)
          · have e32 : foldI cc = cc := by unfold foldI; rw [if_neg up]
            have same : (foldTo (bytesOf l) j).set j cc = foldTo (bytesOf l) j := by
              refine List.ext_getElem? fun i => ?_
              by_cases hij : j = i
              · subst hij
                have := HG2.out
                rw [List.getD_eq_getElem?_getD, List.getElem?_eq_getElem HJ.out] at this
                rw [List.getElem?_set_self HJ.out, List.getElem?_eq_getElem HJ.out, ← this]
                rfl
              · rw [List.getElem?_set_ne hij]
            rw [e32] at HS2
            have HS3 : Hid (foldTo (bytesOf l) (j + 1) = foldTo (bytesOf l) j) := Lib.hid (by rw [← HS2.out, same])
            clear same HS2
            by_cases u1 : 65 ≤ cc
            · have u2 : ¬ cc ≤ 90 := fun h => up ⟨u1, h⟩
              clear up
              go_wp2_with (fail)
              refine ⟨⟨j + 1, rfl, by omega, ?_, HE⟩, by simp [intOf]; omega⟩
              rw [HS3.out]; exact HBy
            · clear up
              go_wp2_with (fail)
              refine ⟨⟨j + 1, rfl, by omega, ?_, HE⟩, by simp [intOf]; omega⟩
              rw [HS3.out]; exact HBy
        · obtain rfl : j = l.size := by omega
          have hcv := byt_string (cap := cap) HBy.out (by rw [foldTo_length, hl]; exact HSz.out)
          have HLi : Hid (Kd.R Kd.string 9 wr w.heap.size (fun _ => True) u5 ((ls.take k).map foldS)) := Lib.hid (Kd.R_below HLw.out HE.out)
          have HDi : Hid (Below w.heap.size w wr) := Lib.hid (below_step HD.out HE.out)
          have HNe := Lib.hid (byt_ne HBy.out HLi.out)
          clear hl HLw HD HE
          cases hok : (mkState (ls.take k)).1
          · go_wp2_with (first | (at_builtin; refine Kd.R_append Kd.string (w0 := w) w.heap.size rfl (.tmp 44) (.tmp 47) 28 9 (.string ⟨#[]⟩) 16 rfl Try.underlying28 (by kernel_rfl) rfl (by decide) (by omega) u5 ((ls.take k).map foldS) (foldS l) [.string (foldS l)] (fun _ => True) (fun _ => False) rfl rfl ?aP (fun _ hk => hk.elim) ?aF ?aO ?aB ?aS ?aL ?_; (case aP => exact rfl); (case aB => exact HDi.out); (case aF => exact (fun _ _ => trivial)); (case aO => exact HLi.out); (case aS => exact below_size HDi.out); (case aL => exact HLim.out); intro v2 w2 hR2 hB2 hg2 hat2; have HLn := Lib.hid hR2; have HBy2 := Lib.hid (HBy.out.keep (hg2.block _ HBy.out.lt (HNe.out))); have hcv2 := byt_string (cap := cap) HBy2.out (by rw [foldTo_length, bytesOf_length]; exact HSz.out); have HDn := Lib.hid hB2; clear hR2 hB2 hg2 hat2))
            refine ⟨⟨k + 1, ?_, ?_, rfl, by omega, ?_, ?_⟩, by simp [intOf]; omega⟩
            · rw [HS.out]; unfold mkStep; rw [if_neg (fun h => by rw [hok] at h; cases h.1)]
            · rw [HS.out]; unfold mkStep; rw [if_neg (fun h => by rw [hok] at h; cases h.1)]
            · rw [HF.out]; exact Lib.hid (HLn.out)
            · exact Lib.hid (HDn.out)
          · by_cases l0 : 0 < l.size
            · have l0' : (0 : Int) < (l.size : Int) := by omega
              by_cases l63 : l.size ≤ 63
              · have l63' : (l.size : Int) ≤ 63 := by omega
                have hw8 : IntKind.u8.wrap (l.size : Int) = (l.size : Int) := by simp [IntKind.wrap, IntKind.bits, IntKind.signed]; omega
                have hfs := foldS_size l
                have hq1 : (9223372036854775807 < (mkState (ls.take k)).2.size + 1) = False := eq_false (by omega)
                have hq2 : (9223372036854775807 < (mkState (ls.take k)).2.size + 1 + (foldS l).size) = False := eq_false (by omega)
                have hq3 : (9223372036854775807 < (mkState (ls.take k)).2.size + 1 + l.size) = False := eq_false (by omega)
                have HX := Lib.hid l63
                clear hfs l63
                go_wp2_with (first | (at_builtin; refine Kd.R_append Kd.string (w0 := w) w.heap.size rfl (.tmp 44) (.tmp 47) 28 9 (.string ⟨#[]⟩) 16 rfl Try.underlying28 (by kernel_rfl) rfl (by decide) (by omega) u5 ((ls.take k).map foldS) (foldS l) [.string (foldS l)] (fun _ => True) (fun _ => False) rfl rfl ?aP (fun _ hk => hk.elim) ?aF ?aO ?aB ?aS ?aL ?_; (case aP => exact rfl); (case aB => exact HDi.out); (case aF => exact (fun _ _ => trivial)); (case aO => exact HLi.out); (case aS => exact below_size HDi.out); (case aL => exact HLim.out); intro v2 w2 hR2 hB2 hg2 hat2; have HLn := Lib.hid hR2; have HBy2 := Lib.hid (HBy.out.keep (hg2.block _ HBy.out.lt (HNe.out))); have hcv2 := byt_string (cap := cap) HBy2.out (by rw [foldTo_length, bytesOf_length]; exact HSz.out); have HDn := Lib.hid hB2; clear hR2 hB2 hg2 hat2; have hc1 := one_string w2 l.size HX.out; have hcv3 := byt_string (cap := cap) (byt_alloc HBy2.out (.cells #[.int .u8 (l.size : Int)] 5)) (by rw [foldTo_length, bytesOf_length]; exact HSz.out)))
                refine ⟨⟨k + 1, ?_, ?_, rfl, by omega, ?_, ?_⟩, by simp [intOf]; omega⟩
                · rw [HS.out]; unfold mkStep; rw [if_pos ⟨hok, l0, HX.out⟩]
                · rw [HS.out]; unfold mkStep; rw [if_pos ⟨hok, l0, HX.out⟩]
                · rw [HF.out]; exact Lib.hid (Kd.R_alloc HLn.out _)
                · exact Lib.hid (below_alloc HDn.out _)
              · have l63' : ¬ (l.size : Int) ≤ 63 := by omega
                go_wp2_with (first | (at_builtin; refine Kd.R_append Kd.string (w0 := w) w.heap.size rfl (.tmp 44) (.tmp 47) 28 9 (.string ⟨#[]⟩) 16 rfl Try.underlying28 (by kernel_rfl) rfl (by decide) (by omega) u5 ((ls.take k).map foldS) (foldS l) [.string (foldS l)] (fun _ => True) (fun _ => False) rfl rfl ?aP (fun _ hk => hk.elim) ?aF ?aO ?aB ?aS ?aL ?_; (case aP => exact rfl); (case aB => exact HDi.out); (case aF => exact (fun _ _ => trivial)); (case aO => exact HLi.out); (case aS => exact below_size HDi.out); (case aL => exact HLim.out); intro v2 w2 hR2 hB2 hg2 hat2; have HLn := Lib.hid hR2; have HBy2 := Lib.hid (HBy.out.keep (hg2.block _ HBy.out.lt (HNe.out))); have hcv2 := byt_string (cap := cap) HBy2.out (by rw [foldTo_length, bytesOf_length]; exact HSz.out); have HDn := Lib.hid hB2; clear hR2 hB2 hg2 hat2))
                refine ⟨⟨k + 1, ?_, ?_, rfl, by omega, ?_, ?_⟩, by simp [intOf]; omega⟩
                · rw [HS.out]; unfold mkStep; rw [if_neg (fun h => l63 h.2.2)]
                · rw [HS.out]; unfold mkStep; rw [if_neg (fun h => l63 h.2.2)]
                · rw [HF.out]; exact Lib.hid (HLn.out)
                · exact Lib.hid (HDn.out)
            · have l0' : ¬ (0 : Int) < (l.size : Int) := by omega
              go_wp2_with (first | (at_builtin; refine Kd.R_append Kd.string (w0 := w) w.heap.size rfl (.tmp 44) (.tmp 47) 28 9 (.string ⟨#[]⟩) 16 rfl Try.underlying28 (by kernel_rfl) rfl (by decide) (by omega) u5 ((ls.take k).map foldS) (foldS l) [.string (foldS l)] (fun _ => True) (fun _ => False) rfl rfl ?aP (fun _ hk => hk.elim) ?aF ?aO ?aB ?aS ?aL ?_; (case aP => exact rfl); (case aB => exact HDi.out); (case aF => exact (fun _ _ => trivial)); (case aO => exact HLi.out); (case aS => exact below_size HDi.out); (case aL => exact HLim.out); intro v2 w2 hR2 hB2 hg2 hat2; have HLn := Lib.hid hR2; have HBy2 := Lib.hid (HBy.out.keep (hg2.block _ HBy.out.lt (HNe.out))); have hcv2 := byt_string (cap := cap) HBy2.out (by rw [foldTo_length, bytesOf_length]; exact HSz.out); have HDn := Lib.hid hB2; clear hR2 hB2 hg2 hat2))
              refine ⟨⟨k + 1, ?_, ?_, rfl, by omega, ?_, ?_⟩, by simp [intOf]; omega⟩
              · rw [HS.out]; unfold mkStep; rw [if_neg (fun h => l0 h.2.1)]
              · rw [HS.out]; unfold mkStep; rw [if_neg (fun h => l0 h.2.1)]
              · rw [HF.out]; exact Lib.hid (HLn.out)
              · exact Lib.hid (HDn.out)
    · have ek : ls.take k = ls := List.take_of_length_le (by omega)
      rw [ek]
      have hnk : ¬ (k : Int) < (ls.length : Int) := by omega
      have HRk : Hid (Kd.C Kd.string wr A ls.length ls) := Lib.hid (Kd.C_below HR.out HD.out)
      rcases HT.out with ⟨hbad, hmk⟩ | ⟨g1, g2, g3, g4, g5, g6⟩
      · have HM := Lib.hid hmk
        clear hmk
        cases hok : (mkState ls).1
        · clear hbad
          go_wp2_with (go_at_call 16; refine (make_any A c ls _ HRk.out (by omega)).mono ?_; rintro e w3 ⟨rfl, hb⟩; rw [HM.out]; have HDn := Lib.hid (below_step HD.out hb); clear hb)
          go_ret
          exact ⟨rfl, HDn.out⟩
        · have h254 : ¬ ((mkState ls).2.size : Int) ≤ 254 := by
            rcases hbad with h | h
            · rw [hok] at h; cases h
            · omega
          clear hbad
          go_wp2_with (go_at_call 16; refine (make_any A c ls _ HRk.out (by omega)).mono ?_; rintro e w3 ⟨rfl, hb⟩; rw [HM.out]; have HDn := Lib.hid (below_step HD.out hb); clear hb)
          go_ret
          exact ⟨rfl, HDn.out⟩
      · have h254 : ((mkState ls).2.size : Int) ≤ 254 := by omega
        clear hlt
        generalize mkState ls = st at g1 g2 g3 g4 g5 g6 h254
        obtain ⟨okk, nm⟩ := st
        obtain rfl : okk = true := g1
        dsimp only at g2 g3 g4 g5 g6 h254
        have HM := Lib.hid g3
        have HLb := Lib.hid g4
        have HSm := Lib.hid g5
        have HCt := Lib.hid g6
        clear g2 g3 g4 g5 g6
        rw [ek] at HLw
        clear ek
        generalize ls.map foldS = fs at HLb HSm HLw
        obtain ⟨Al, cl, rfl, hcl, hCl⟩ := Kd.R_reads HLw.out
        have HCl := Lib.hid hCl
        clear hCl HLw
        go_wp2_with (first | (go_at_call 16; refine (make_any A c ls _ HRk.out (by omega)).mono ?_; rintro e w3 ⟨rfl, hb⟩; rw [HM.out]; have HC2 := Lib.hid (Kd.C_below HCl.out hb); have HDn := Lib.hid (below_step HD.out hb); clear HCl HD hb) | (go_at_call 18; refine (name_Labels.calls kk _ (fs) true _ HLb.out).mono ?_; rintro e w4 ⟨v, rfl, hR, hb⟩; obtain ⟨Ab, cb, rfl, hcb, hCb⟩ := Kd.R_reads hR; have HC3 := Lib.hid (Kd.C_below HC2.out hb); have HDm := Lib.hid (below_step HDn.out hb); have HCb := Lib.hid hCb; clear HC2 HDn hb hR hCb) | (go_at_call 19; refine (bolterlaw02_same.calls kk Ab cb (fs) Al cl (fs) true _ HCb.out hcb HC3.out hcl HSm.out).mono ?_; rintro e w5 ⟨rfl, ⟨⟨nq, rfl⟩⟩⟩; have HDo := Lib.hid (pw_below_drewN HDm.out nq); clear HDm) | (go_at_call 20; refine (name_Count.calls kk _ (ls.length : Int) _ HCt.out).mono ?_; rintro e w6 ⟨rfl, hb⟩; have HDp := Lib.hid (below_step HDo.out hb); clear HDo hb))
        go_ret
        exact ⟨rfl, HDp.out⟩
end Go.Proofs.Ytihlimbdgipdeaa.Hand
