/- The contract of name.Make: for every list of texts. -/
import Derived.Test.YtdkjlbbbdjkhbaaHandF
import Derived.Test.YtdkjlbbbdjkhbaaHandB
import Derived.Shelf.Strings.Builder1
set_option linter.unusedVariables false
namespace Go.Proofs.Ytdkjlbbbdjkhbaa.Hand
open Go.RowKit Go.Proofs.YtdkjlbbbdjkhbaaW.PrintWords Go.Proofs.YtdkjlbbbdjkhbaaW.PrintLast

open Go.Shelf Go.Proofs
def shelf_lays170_ren : Go.Shelf.Ren := ⟨fun | 170 => 43 | n => n, fun | 70 => 89 | 3 => 3 | 0 => 0 | 72 => 91 | 37 => 22 | 5 => 5 | n => n, fun | n => n⟩
theorem shelf_lays170 : Go.Proofs.Lays.n170 Try.prog shelf_lays170_ren := {
  mixed := by kernel_rfl
  f170 := Try.func43.trans (congrArg some (by kernel_rfl))
  t0 := Try.underlying0
  a0 := Try.isAgg0
  z0 := Try.sizeOf0
  v0 := Try.zeroValue0
  t3 := Try.underlying3
  a3 := Try.isAgg3
  z3 := Try.sizeOf3
  v3 := Try.zeroValue3
  t37 := Try.underlying22
  a37 := Try.isAgg22
  z37 := Try.sizeOf22
  v37 := Try.zeroValue22
  t70 := Try.underlying89
  a70 := Try.isAgg89
  z70 := Try.sizeOf89
  v70 := Try.zeroValue89
  t72 := Try.underlying91
  a72 := Try.isAgg91
  z72 := Try.sizeOf91
  v72 := Try.zeroValue91 }
open Go.RowKit in
/-- Laid from the shelf. -/
theorem shelf_Builder_Len (B b : Nat) (bs : List Value) (w : World) (h : Lib.IsBuilder 91 5 B b bs w) :
    Calls Try.prog 43 #[.pointer (some ⟨b, 0, none⟩)] w fun e w' => e = .returned (.int .i64 bs.length) ∧ w' = w := Any.Builder_Len shelf_lays170 B b bs w h
def shelf_lays169_ren : Go.Shelf.Ren := ⟨fun | 169 => 47 | n => n, fun | 70 => 89 | 9 => 9 | 0 => 0 | 72 => 91 | 37 => 22 | 127 => 105 | 3 => 3 | 5 => 5 | n => n, fun | n => n⟩
theorem shelf_lays169 : Go.Proofs.Lays.n169 Try.prog shelf_lays169_ren := {
  mixed := by kernel_rfl
  f169 := Try.func47.trans (congrArg some (by kernel_rfl))
  t0 := Try.underlying0
  a0 := Try.isAgg0
  z0 := Try.sizeOf0
  v0 := Try.zeroValue0
  t3 := Try.underlying3
  a3 := Try.isAgg3
  z3 := Try.sizeOf3
  v3 := Try.zeroValue3
  t9 := Try.underlying9
  a9 := Try.isAgg9
  z9 := Try.sizeOf9
  v9 := Try.zeroValue9
  t37 := Try.underlying22
  a37 := Try.isAgg22
  z37 := Try.sizeOf22
  v37 := Try.zeroValue22
  t70 := Try.underlying89
  a70 := Try.isAgg89
  z70 := Try.sizeOf89
  v70 := Try.zeroValue89
  t72 := Try.underlying91
  a72 := Try.isAgg91
  z72 := Try.sizeOf91
  v72 := Try.zeroValue91
  t127 := Try.underlying105
  a127 := Try.isAgg105
  z127 := Try.sizeOf105
  v127 := Try.zeroValue105 }
theorem shelf_Builder_Extra_169 : Builder.Extra Try.prog shelf_lays169_ren := {
  sizeBuilder := by kernel_rfl
  liesBuilder := by kernel_rfl
  t5 := Try.underlying5
  a5 := Try.isAgg5
  z5 := Try.sizeOf5
  v5 := Try.zeroValue5
  infoByte := by kernel_rfl
  cellsByte := by kernel_rfl
  sizeByte := by kernel_rfl
  neB5 := by decide }
open Go.RowKit in
/-- Laid from the shelf. -/
theorem shelf_Builder_String_any (B b : Nat) (l : List UInt8) (w : World) (h : Lib.IsBuilder 91 5 B b (Lib.byteCells l) w) (hBw : B ≤ w.heap.size) :
    Calls Try.prog 47 #[.pointer (some ⟨b, 0, none⟩)] w fun e w' => e = .returned (.string ⟨l.toArray⟩) ∧ Below B w w' := Any.Builder_String_any shelf_lays169 shelf_Builder_Extra_169 B b l w h hBw

/-! ### name.Make -/
def lab (l : ByteArray) : List UInt8 := UInt8.ofNat l.size :: (foldS l).data.toList
theorem lab_length (l : ByteArray) : (lab l).length = l.size + 1 := by
  have : (foldS l).data.toList.length = (foldS l).size := by rw [Array.length_toList]; rfl
  unfold lab; rw [List.length_cons, this, foldS_size]
/-- What is written when the labels up to here have been, and the others. -/
def makeGo : List ByteArray → List UInt8 → ByteArray × Bool
  | [], acc => (⟨acc.toArray⟩, true)
  | l :: ls, acc => if l.size < 1 ∨ 63 < l.size ∨ 254 < acc.length + 1 + l.size then ((⟨#[]⟩ : ByteArray), false) else makeGo ls (acc ++ lab l)
def name_Make.f (l0 : List ByteArray) : Option (ByteArray × Bool) := if l0.length ≤ 140737488351232 then some (makeGo l0 []) else none

theorem IsBuilder_drewN {T e : TypeId} {B b : Nat} {bs : List Value} {w : World} (h : Lib.IsBuilder T e B b bs w) (n : Nat) : Lib.IsBuilder T e B b bs (w.drewN n) := h
theorem byteCells_lab (l : ByteArray) (h : l.size ≤ 255) (acc : List UInt8) : Lib.byteCells acc ++ [.int .u8 (l.size : Int)] ++ Lib.strCells (foldS l) = Lib.byteCells (acc ++ lab l) := by
  rw [Lib.strCells_eq, Lib.byteCells_append]
  unfold lab
  simp [Lib.byteCells]
  omega

theorem builder_below {T e : TypeId} {B b : Nat} {p : Value} {bs : List Value} {w w1 : World} (h : Lib.BuilderAt T e B b p bs w) (hb : Below w.heap.size w w1) : Lib.BuilderAt T e B b p bs w1 := by
  obtain ⟨hB, v, hbk, hown, hne⟩ := h
  exact ⟨hB, v, blk_below hbk hb, pw_own_below hown hb, hne⟩

set_option maxHeartbeats 8000000 in
set_option maxRecDepth 100000 in
theorem make_any (A0 : Option Addr) (c0 : Nat) (l0 : List ByteArray) (w : World) (hr0 : Kd.C Kd.string w A0 l0.length l0) (hlen : l0.length ≤ 140737488351232) :
    Calls Try.prog 36 #[.slice A0 l0.length c0] w fun e w' => e = .returned (.tuple #[.string (makeGo l0 []).1, .bool (makeGo l0 []).2]) ∧ Below w.heap.size w w' := by
  have HR := Lib.hid hr0
  clear hr0
  go_enter Try.func36, Try.ntmps36
  have IB : Hid (Lib.IsBuilder 91 5 w.heap.size w.heap.size (Lib.byteCells []) (w.alloc (.cells #[.pointer none, .slice none 0 0] 91))) := Lib.hid (Lib.fresh_isBuilder 91 5 w)
  have HB : Hid (Below w.heap.size w (w.alloc (.cells #[.pointer none, .slice none 0 0] 91))) := Lib.hid ((Below.refl _ _).alloc (Nat.le_refl _) _)
  have hsz : w.heap.size < (w.alloc (.cells #[.pointer none, .slice none 0 0] 91)).heap.size := by simp
  go_wp2_with (fail)
  generalize (w.alloc (.cells #[.pointer none, .slice none 0 0] 91)) = W0 at IB HB hsz ⊢
  go_loopw [9] (fun v wr => ∃ (k : Nat) (acc : List UInt8), v = .int .i64 (k : Int) ∧ k ≤ l0.length ∧ acc.length ≤ 254 ∧ Hid (makeGo (l0.drop k) acc = makeGo l0 []) ∧ Hid (Lib.IsBuilder 91 5 w.heap.size w.heap.size (Lib.byteCells acc) wr) ∧ Hid (Below w.heap.size w wr) ∧ w.heap.size < wr.heap.size) (fun v _ => (l0.length - (intOf v).toNat))
  case atStart => exact ⟨0, [], rfl, Nat.zero_le _, by simp, Lib.hid rfl, IB, HB, hsz⟩
  case round =>
    obtain ⟨k, acc, rfl, k1, ha, HE, HI, HD, hbs⟩ := hrel
    clear IB HB hsz
    by_cases hlt : k < l0.length
    · obtain ⟨ad, rfl, hcell⟩ := Kd.at_string (Kd.C_below HR.out HD.out) (k : Int) (by omega) (by omega)
      have el : rdOf ByteArray.empty l0 (k : Int) = l0[k] := by simp [rdOf, List.getD_eq_getElem?_getD, hlt]
      rw [el] at hcell
      have hE := HE.out
      rw [List.drop_eq_getElem_cons hlt, makeGo] at hE
      clear HE el
      generalize l0[k] = l at hcell hE
      rw [Int.toNat_natCast] at hcell
      by_cases b1 : l.size < 1
      · rw [if_pos (.inl b1)] at hE
        have HF := Lib.hid hE
        clear hE
        go_wp2_with (fail)
        go_ret2
        exact ⟨by (rw [← HF.out]) <;> rfl, HD.out⟩
      · by_cases b2 : 63 < l.size
        · rw [if_pos (.inr (.inl b2))] at hE
          have HF := Lib.hid hE
          clear hE
          go_wp2_with (fail)
          go_ret2
          exact ⟨by (rw [← HF.out]) <;> rfl, HD.out⟩
        · have hL : (Lib.byteCells acc).length = acc.length := Lib.byteCells_length acc
          by_cases b3 : 254 < acc.length + 1 + l.size
          · rw [if_pos (.inr (.inr b3))] at hE
            have HF := Lib.hid hE
            have HL := Lib.hid hL
            clear hE hL
            go_wp2_with (go_at_call 43; refine (shelf_Builder_Len _ _ _ _ HI.out).mono ?_)
            rintro e w2 ⟨rfl, rfl⟩
            rw [HL.out]
            go_wp2_with (fail)
            go_ret2
            exact ⟨by (rw [← HF.out]) <;> rfl, HD.out⟩
          · rw [if_neg (by omega)] at hE
            have HF := Lib.hid hE
            have HL := Lib.hid hL
            clear hE hL
            go_wp2_with (go_at_call 43; refine (shelf_Builder_Len _ _ _ _ HI.out).mono ?_)
            rintro e w2 ⟨rfl, rfl⟩
            rw [HL.out]
            go_wp2_with (go_at_call 44; refine (writeByte_any w.heap.size w.heap.size (Lib.byteCells acc) (l.size : Int) _ HI.out (by rw [HL.out]; omega) (Nat.le_of_lt hbs)).mono ?_)
            rintro e w3 ⟨rfl, hI3, hb3⟩
            clear hcell
            have hbs3 : w.heap.size < w3.heap.size := Nat.lt_of_lt_of_le hbs hb3.size
            go_wp2_with (go_at_call 46; refine (folded_any l _ (by omega)).mono ?_)
            rintro e w4 ⟨rfl, hb4⟩
            have hI4 := builder_below hI3 hb4
            have hbs4 : w.heap.size < w4.heap.size := Nat.lt_of_lt_of_le hbs3 hb4.size
            have hf := foldS_size l
            have HFS := Lib.hid hf
            clear hf
            go_wp2_with (go_at_call 45; refine (writeString_any w.heap.size w.heap.size _ (foldS l) _ (.inr hI4) (by rw [List.length_append, HL.out, HFS.out]; simp; omega) (Nat.le_of_lt hbs4)).mono ?_)
            rintro e w5 ⟨rfl, hI5, hb5⟩
            go_wp2_with (fail)
            refine ⟨⟨k + 1, acc ++ lab l, rfl, by omega, by rw [List.length_append, lab_length]; omega, HF, ?_, ?_, ?_⟩, by simp [intOf]; omega⟩
            · rw [← byteCells_lab l (by omega)]; exact Lib.hid (.inr hI5)
            · exact Lib.hid (HD.out.trans (hb3.trans ((hb4.mono (Nat.le_of_lt hbs3)).trans hb5)))
            · exact Nat.lt_of_lt_of_le hbs4 hb5.size
    · have hE := HE.out
      rw [List.drop_of_length_le (by omega), makeGo] at hE
      have HF := Lib.hid hE
      clear hE HE
      go_wp2_with (go_at_call 47; refine (shelf_Builder_String_any w.heap.size w.heap.size acc _ HI.out (Nat.le_of_lt hbs)).mono ?_)
      rintro e w3 ⟨rfl, hb3⟩
      go_wp2_with (fail)
      go_ret2
      exact ⟨by (rw [← HF.out]) <;> rfl, HD.out.trans hb3⟩
theorem name_Make.calls (A0 : Option Addr) (c0 : Nat) (l0 : List ByteArray) (r1 : ByteArray) (r2 : Bool) (w : World) (hr0 : Kd.C Kd.string w A0 l0.length l0) (hc0 : l0.length ≤ c0) (h : name_Make.f l0 = some (r1, r2)) :
    Calls Try.prog 36 #[.slice A0 l0.length c0] w fun e w' => e = .returned (.tuple #[.string r1, .bool r2]) ∧ Below w.heap.size w w' := by
  unfold name_Make.f at h
  by_cases c : l0.length ≤ 140737488351232
  · rw [if_pos c] at h
    have := Option.some.inj h
    obtain ⟨rfl, rfl⟩ := Prod.mk.inj this
    exact make_any A0 c0 l0 w hr0 c
  · rw [if_neg c] at h; cases h

end Go.Proofs.Ytdkjlbbbdjkhbaa.Hand
