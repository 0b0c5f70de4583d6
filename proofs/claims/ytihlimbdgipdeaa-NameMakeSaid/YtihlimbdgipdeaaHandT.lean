/- The contract of name.Text: for every name. -/
import Derived.Test.YtihlimbdgipdeaaHandM
import Derived.Test.YtihlimbdgipdeaaPBase0x
import Derived.Test.YtihlimbdgipdeaaHandW
set_option linter.unusedVariables false
namespace Go.Proofs.Ytihlimbdgipdeaa.Hand
open Go.RowKit Go.Proofs.YtihlimbdgipdeaaW.PrintWords Go.Proofs.YtihlimbdgipdeaaW.PrintLast Go.Proofs.Ytihlimbdgipdeaa.PBase0


/-! ### name.Text -/
def plainI (c : Int) : Bool := (name_plain.f c).getD false
theorem plain_eq (c : Int) : name_plain.f c = some (plainI c) := by
  have h : ∃ b, name_plain.f c = some b := by unfold name_plain.f; repeat' split
                                              all_goals exact ⟨_, rfl⟩
  obtain ⟨b, h⟩ := h
  unfold plainI; rw [h]; rfl
/-- How a byte is written. -/
def escB (x : UInt8) : List UInt8 := if plainI x.toNat then [x] else [92, UInt8.ofNat (48 + x.toNat / 100), UInt8.ofNat (48 + x.toNat / 10 % 10), UInt8.ofNat (48 + x.toNat % 10)]
def escL (l : List UInt8) : List UInt8 := l.flatMap escB
def textB (ls : List ByteArray) : List UInt8 := ls.flatMap fun l => escL l.data.toList ++ [46]
theorem escB_pos (x : UInt8) : 1 ≤ (escB x).length := by unfold escB; split <;> simp
theorem escL_length (l : List UInt8) : l.length ≤ (escL l).length := by
  induction l with
  | nil => simp [escL]
  | cons x l ih =>
    have := escB_pos x
    simp only [escL, List.flatMap_cons, List.length_append, List.length_cons] at ih ⊢
    omega
theorem textB_append (a b : List ByteArray) : textB (a ++ b) = textB a ++ textB b := by simp [textB]
theorem textB_length (ls : List ByteArray) : ls.length ≤ (textB ls).length := by
  induction ls with
  | nil => simp [textB]
  | cons x l ih =>
    simp only [textB, List.flatMap_cons, List.length_append, List.length_cons, List.length_nil] at ih ⊢
    omega
theorem textB_take (ls : List ByteArray) (k : Nat) (h : k < ls.length) : textB (ls.take (k + 1)) = textB (ls.take k) ++ (escL (ls[k]).data.toList ++ [46]) := by
  rw [List.take_succ_eq_append_getElem h, textB_append]; simp [textB]
theorem textB_take_le (ls : List ByteArray) (k : Nat) : (textB (ls.take k)).length ≤ (textB ls).length := by
  have := textB_append (ls.take k) (ls.drop k)
  rw [List.take_append_drop] at this
  rw [this, List.length_append]; omega
theorem escL_take (l : List UInt8) (j : Nat) (h : j < l.length) : escL (l.take (j + 1)) = escL (l.take j) ++ escB l[j] := by
  unfold escL; rw [List.take_succ_eq_append_getElem h, List.flatMap_append]; simp
theorem escL_take_le (l : List UInt8) (j : Nat) : (escL (l.take j)).length ≤ (escL l).length := by
  have : escL (l.take j ++ l.drop j) = escL (l.take j) ++ escL (l.drop j) := by unfold escL; rw [List.flatMap_append]
  rw [List.take_append_drop] at this
  rw [this, List.length_append]; omega
theorem cells_plain (x : UInt8) (acc : List UInt8) (h : plainI x.toNat = true) : Lib.byteCells acc ++ [.int .u8 (x.toNat : Int)] = Lib.byteCells (acc ++ escB x) := by
  rw [Lib.byteCells_append]; unfold escB; rw [if_pos h]; rfl
def escV (c : Int) : List Value := [.int .u8 92, .int .u8 (48 + c / 100), .int .u8 (48 + c / 10 % 10), .int .u8 (48 + c % 10)]
theorem cells_esc (x : UInt8) (acc : List UInt8) (h : plainI x.toNat = false) : Lib.byteCells acc ++ escV (x.toNat : Int) = Lib.byteCells (acc ++ escB x) := by
  rw [Lib.byteCells_append]; unfold escB
  have := x.toNat_lt
  rw [if_neg (by rw [h]; decide)]
  simp only [Lib.byteCells, escV, List.map_cons, List.map_nil]
  have e1 : (UInt8.ofNat (48 + x.toNat / 100)).toNat = 48 + x.toNat / 100 := by simp; omega
  have e2 : (UInt8.ofNat (48 + x.toNat / 10 % 10)).toNat = 48 + x.toNat / 10 % 10 := by simp; omega
  have e3 : (UInt8.ofNat (48 + x.toNat % 10)).toNat = 48 + x.toNat % 10 := by simp; omega
  rw [e1, e2, e3]
  simp
theorem escB_le (x : UInt8) : (escB x).length ≤ 4 := by unfold escB; split <;> simp

theorem isBuilder_alloc {T e : TypeId} {B b : Nat} {bs : List Value} {w : World} (h : Lib.IsBuilder T e B b bs w) (o : Obj) : Lib.IsBuilder T e B b bs (w.alloc o) := by
  rcases h with h | h
  · exact .inl (builder_below h ((Below.refl _ _).alloc (Nat.le_refl _) _))
  · exact .inr (builder_below h ((Below.refl _ _).alloc (Nat.le_refl _) _))
theorem isBuilder_lt {T e : TypeId} {B b : Nat} {bs : List Value} {w : World} (h : Lib.IsBuilder T e B b bs w) : b < w.heap.size := by
  rcases h with h | h
  · exact h.lt
  · exact h.lt
theorem new_cells (w : World) (t : TypeId) (vs : List Value) (j : Nat) (u : Value) (h : vs[j]? = some u) : (w.alloc (.cells vs.toArray t)).cell? ((⟨w.heap.size, 0, none⟩ : Addr).add j) = some u := by
  rw [add_plain, blk_cell (heap_alloc_new w _) j]
  simpa using h

set_option maxHeartbeats 8000000 in
set_option maxRecDepth 100000 in
theorem text_some (k : Nat) (a0 : ByteArray) (ls : List ByteArray) (w : World) (h : name_Labels.f k a0 = some (ls, true)) (hp : 0 < ls.length) (hlen : (textB ls).length ≤ 140737488351232) :
    Calls Try.prog 25 #[.string a0] w fun e w' => e = .returned (.string ⟨(textB ls).toArray⟩) ∧ Below w.heap.size w w' := by
  have HLa := Lib.hid h
  have hls := textB_length ls
  clear h
  go_enter Try.func25, Try.ntmps25
  go_wp2_with (go_at_call 18; refine (name_Labels.calls k a0 ls true _ HLa.out).mono ?_)
  rintro e w1 ⟨v, rfl, hR, hb1⟩
  obtain ⟨A, c, rfl⟩ := Kd.R_slice hR
  have HR := Lib.hid (Kd.R_reads' hR).2.2
  clear hR
  have l0 : ((ls.length : Int) == 0) = false := by rw [beq_eq_false_iff_ne]; omega
  have IB : Hid (Lib.IsBuilder 51 5 w1.heap.size w1.heap.size (Lib.byteCells (textB (ls.take 0))) (w1.alloc (.cells #[.pointer none, .slice none 0 0] 51))) := Lib.hid (Lib.fresh_isBuilder 51 5 w1)
  have HB : Hid (Below w1.heap.size w1 (w1.alloc (.cells #[.pointer none, .slice none 0 0] 51))) := Lib.hid ((Below.refl _ _).alloc (Nat.le_refl _) _)
  have HB1 := Lib.hid hb1
  have hsz : w1.heap.size < (w1.alloc (.cells #[.pointer none, .slice none 0 0] 51)).heap.size := by simp
  have hww : w.heap.size ≤ w1.heap.size := hb1.size
  clear hb1
  go_wp2_with (fail)
  generalize (w1.alloc (.cells #[.pointer none, .slice none 0 0] 51)) = W0 at IB HB hsz ⊢
  go_loopw [22] (fun v wr => ∃ (k : Nat), v = .int .i64 (k : Int) ∧ k ≤ ls.length ∧ Hid (Lib.IsBuilder 51 5 w1.heap.size w1.heap.size (Lib.byteCells (textB (ls.take k))) wr) ∧ Hid (Below w1.heap.size w1 wr) ∧ w1.heap.size < wr.heap.size) (fun v _ => (ls.length - (intOf v).toNat))
  case atStart => exact ⟨0, rfl, Nat.zero_le _, IB, HB, hsz⟩
  case round =>
    obtain ⟨k, rfl, k1, HI, HD, hbs⟩ := hrel
    clear IB HB hsz
    by_cases hlt : k < ls.length
    · obtain ⟨ad, rfl, hcell⟩ := Kd.at_string (Kd.C_below HR.out HD.out) (k : Int) (by omega) (by omega)
      have el : rdOf ByteArray.empty ls (k : Int) = ls[k] := by simp [rdOf, List.getD_eq_getElem?_getD, hlt]
      rw [el, Int.toNat_natCast] at hcell
      have hE := textB_take ls k hlt
      have hL := textB_take_le ls (k + 1)
      clear el
      generalize ls[k] = l at hcell hE
      have hl : l.data.toList.length = l.size := by rw [Array.length_toList]; rfl
      have hel := escL_length l.data.toList
      have hL2 : (textB (ls.take k)).length + ((escL l.data.toList).length + 1) ≤ (textB ls).length := by
        rw [hE, List.length_append, List.length_append] at hL; simpa using hL
      have hl3 : l.size ≤ 140737488351232 := by omega
      have HE := Lib.hid hE
      have HDL := Lib.hid hl
      clear hE hL hel hl
      go_wp2_with (fail)
      obtain ⟨wo, rfl⟩ : ∃ wo : World, wo = wr := ⟨_, rfl⟩
      have I0 : Hid (Lib.IsBuilder 51 5 w1.heap.size w1.heap.size (Lib.byteCells (textB (ls.take k) ++ escL (l.data.toList.take 0))) wo) := Lib.hid (by simpa [escL] using HI.out)
      go_loopw [28] (fun v wr => ∃ (j : Nat), v = .int .i64 (j : Int) ∧ j ≤ l.size ∧ Hid (Lib.IsBuilder 51 5 w1.heap.size w1.heap.size (Lib.byteCells (textB (ls.take k) ++ escL (l.data.toList.take j))) wr) ∧ Hid (Below w1.heap.size w1 wr) ∧ w1.heap.size < wr.heap.size) (fun v _ => (l.size - (intOf v).toNat))
      case atStart => exact ⟨0, rfl, Nat.zero_le _, I0, HD, hbs⟩
      case round =>
        obtain ⟨j, rfl, j1, HJ, HDj, hbj⟩ := hrel
        clear I0 hcell
        by_cases hjt : j < l.size
        · have hjl : j < l.data.toList.length := by rw [HDL.out]; exact hjt
          have ht := escL_take l.data.toList j hjl
          have htl := escL_take_le l.data.toList (j + 1)
          have hbt : bt l (j : Int) = ((l.data.toList[j]).toNat : Int) := by
            rw [← bt_at l (j : Int) (by simpa using hjt)]; simp [ByteArray.getElem_eq_getElem_data]
          have ⟨r0, r1⟩ := bt_range l (j : Int)
          have hx := bt_at l (j : Int)
          simp only [Int.toNat_natCast] at hx
          have hle := escB_le (l.data.toList[j])
          generalize hy : l.data.toList[j] = y at ht hbt hle
          rw [ht, List.length_append] at htl
          have hLL : (Lib.byteCells (textB (ls.take k) ++ escL (l.data.toList.take j))).length = (textB (ls.take k)).length + (escL (l.data.toList.take j)).length := by rw [Lib.byteCells_length, List.length_append]
          have hpl := plain_eq (bt l (j : Int))
          have hyp := escB_pos y
          cases hpb : plainI (bt l (j : Int)) with
          | true =>
            rw [hpb] at hpl
            have HT := Lib.hid ht
            have HLL := Lib.hid hLL
            have HPL := Lib.hid hpl
            have HY := Lib.hid hbt
            have HPB := Lib.hid hpb
            clear ht hLL hpl hbt hpb hy hle
            generalize bt l (j : Int) = cc at hx r0 r1 HPL HY HPB
            go_wp2_with (go_at_call 33; refine (name_plain.calls _ _ _ HPL.out).mono ?_)
            rintro e w2 ⟨rfl, ⟨⟨nq, rfl⟩⟩⟩
            go_wp2_with (go_at_call 29; refine (writeByte_any w1.heap.size w1.heap.size _ cc _ (IsBuilder_drewN HJ.out nq) (by rw [HLL.out]; omega) (by simp; omega)).mono ?_)
            rintro e w3 ⟨rfl, hI3, hb3⟩
            go_wp2_with (fail)
            refine ⟨⟨j + 1, rfl, by omega, ?_, ?_, ?_⟩, by simp [intOf]; omega⟩
            · rw [HT.out, ← List.append_assoc, ← cells_plain y _ (by rw [← HY.out]; exact HPB.out), ← HY.out]; exact Lib.hid (.inr hI3)
            · exact Lib.hid ((pw_below_drewN HDj.out nq).trans hb3)
            · have := hb3.size; simp at this; omega
          | false =>
            rw [hpb] at hpl
            have HT := Lib.hid ht
            have HLL := Lib.hid hLL
            have HPL := Lib.hid hpl
            have HY := Lib.hid hbt
            have HPB := Lib.hid hpb
            have hy4 : (escB y).length = 4 := by unfold escB; rw [if_neg (by rw [← hbt, hpb]; decide)]; rfl
            have HY4 := Lib.hid hy4
            clear ht hLL hpl hbt hpb hy
            generalize bt l (j : Int) = cc at hx r0 r1 HPL HY HPB
            go_wp2_with (go_at_call 33; refine (name_plain.calls _ _ _ HPL.out).mono ?_)
            rintro e w2 ⟨rfl, ⟨⟨nq, rfl⟩⟩⟩
            have HIn := isBuilder_alloc (IsBuilder_drewN HJ.out nq) (.cells (escV cc).toArray 5)
            have hne : wr.heap.size ≠ w1.heap.size := by omega
            go_wp2_with (go_at_call 34; refine (write_any w1.heap.size w1.heap.size (Lib.byteCells (textB (ls.take k) ++ escL (l.data.toList.take j))) ⟨wr.heap.size, 0, none⟩ 4 4 (escV cc) _ HIn rfl (fun j u h => new_cells (wr.drewN nq) 5 (escV cc) j u h) hne (by simp [escV, Value.oneCell']) (by rw [HLL.out]; omega) (by simp; omega)).mono ?_)
            rintro e w3 ⟨rfl, hI3, hb3⟩
            go_wp2_with (fail)
            refine ⟨⟨j + 1, rfl, by omega, ?_, ?_, ?_⟩, by simp [intOf]; omega⟩
            · rw [HT.out, ← List.append_assoc, ← cells_esc y _ (by rw [← HY.out]; exact HPB.out), ← HY.out]; exact Lib.hid (.inr hI3)
            · exact Lib.hid (((pw_below_drewN HDj.out nq).alloc (by simp; omega) _).trans hb3)
            · have := hb3.size; simp at this; omega
        · have ej : j = l.size := by omega
          have HJ2 : Hid (Lib.IsBuilder 51 5 w1.heap.size w1.heap.size (Lib.byteCells (textB (ls.take k) ++ escL l.data.toList)) wr) := by
            have := HJ.out
            rw [show l.data.toList.take j = l.data.toList from List.take_of_length_le (by rw [HDL.out]; omega)] at this
            exact Lib.hid this
          have hLL : (Lib.byteCells (textB (ls.take k) ++ escL l.data.toList)).length = (textB (ls.take k)).length + (escL l.data.toList).length := by rw [Lib.byteCells_length, List.length_append]
          have HLL := Lib.hid hLL
          clear HJ ej hLL
          go_wp2_with (go_at_call 29; refine (writeByte_any w1.heap.size w1.heap.size _ 46 _ HJ2.out (by rw [HLL.out]; omega) (by omega)).mono ?_)
          rintro e w3 ⟨rfl, hI3, hb3⟩
          go_wp2_with (fail)
          refine ⟨⟨k + 1, rfl, by omega, ?_, ?_, ?_⟩, by simp [intOf]; omega⟩
          · rw [HE.out, ← List.append_assoc, Lib.byteCells_append]; exact Lib.hid (.inr hI3)
          · exact Lib.hid (HDj.out.trans hb3)
          · have := hb3.size; omega
    · have ek : ls.take k = ls := List.take_of_length_le (by omega)
      have HI2 : Hid (Lib.IsBuilder 51 5 w1.heap.size w1.heap.size (Lib.byteCells (textB ls)) wr) := by
        have := HI.out
        rw [ek] at this
        exact Lib.hid this
      clear HI ek
      go_wp2_with (go_at_call 32; refine (shelf_Builder_String_any w1.heap.size w1.heap.size (textB ls) _ HI2.out (by omega)).mono ?_)
      rintro e w3 ⟨rfl, hb3⟩
      go_wp2_with (fail)
      go_ret
      exact ⟨rfl, HB1.out.trans ((HD.out.trans hb3).mono hww)⟩

set_option maxHeartbeats 2000000 in
set_option maxRecDepth 100000 in
theorem text_none (k : Nat) (a0 : ByteArray) (ls : List ByteArray) (w : World) (h : name_Labels.f k a0 = some (ls, false)) :
    Calls Try.prog 25 #[.string a0] w fun e w' => e = .returned (.string (⟨#[]⟩ : ByteArray)) ∧ Below w.heap.size w w' := by
  have HLa := Lib.hid h
  clear h
  go_enter Try.func25, Try.ntmps25
  go_wp2_with (go_at_call 18; refine (name_Labels.calls k a0 ls false _ HLa.out).mono ?_)
  rintro e w1 ⟨v, rfl, hR, hb1⟩
  go_wp2_with (fail)
  go_ret
  exact ⟨rfl, hb1⟩
set_option maxHeartbeats 2000000 in
set_option maxRecDepth 100000 in
theorem text_root (k : Nat) (a0 : ByteArray) (w : World) (h : name_Labels.f k a0 = some ([], true)) :
    Calls Try.prog 25 #[.string a0] w fun e w' => e = .returned (.string (⟨#[46]⟩ : ByteArray)) ∧ Below w.heap.size w w' := by
  have HLa := Lib.hid h
  clear h
  go_enter Try.func25, Try.ntmps25
  go_wp2_with (go_at_call 18; refine (name_Labels.calls k a0 [] true _ HLa.out).mono ?_)
  rintro e w1 ⟨v, rfl, hR, hb1⟩
  obtain ⟨A, c, rfl⟩ := Kd.R_slice hR
  go_wp2_with (fail)
  go_ret
  exact ⟨rfl, hb1⟩
def name_Text.f (k : Nat) (a0 : ByteArray) : Option ByteArray := (name_Labels.f k a0).bind fun r =>
  if r.2 = true then (if r.1.length = 0 then some (⟨#[46]⟩ : ByteArray) else if (textB r.1).length ≤ 140737488351232 then some ⟨(textB r.1).toArray⟩ else none) else some (⟨#[]⟩ : ByteArray)
theorem name_Text.mono : ∀ a0 k, LeO (name_Text.f k a0) (name_Text.f (k + 1) a0) := by
  intro a0 k
  unfold name_Text.f
  exact LeO.bind (name_Labels.mono a0 k) (fun _ => LeO.refl _)
theorem name_Text.calls (k : Nat) (a0 : ByteArray) (r : ByteArray) (w : World) (h : name_Text.f k a0 = some r) :
    Calls Try.prog 25 #[.string a0] w fun e w' => e = .returned (.string r) ∧ Below w.heap.size w w' := by
  unfold name_Text.f at h
  obtain ⟨⟨ls, b⟩, hl, h⟩ := Option.bind_eq_some_iff.1 h
  dsimp only at h
  cases b with
  | false =>
    rw [if_neg (by decide)] at h
    obtain rfl := Option.some.inj h
    exact text_none k a0 ls w hl
  | true =>
    rw [if_pos rfl] at h
    by_cases c : ls.length = 0
    · rw [if_pos c] at h
      obtain rfl := Option.some.inj h
      obtain rfl := List.eq_nil_of_length_eq_zero c
      exact text_root k a0 w hl
    · rw [if_neg c] at h
      by_cases d : (textB ls).length ≤ 140737488351232
      · rw [if_pos d] at h
        obtain rfl := Option.some.inj h
        exact text_some k a0 ls w hl (by omega) d
      · rw [if_neg d] at h; cases h

end Go.Proofs.Ytihlimbdgipdeaa.Hand
