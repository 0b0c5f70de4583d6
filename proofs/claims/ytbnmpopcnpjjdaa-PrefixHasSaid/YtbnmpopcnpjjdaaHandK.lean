/- The contract of prefix.Key: for every prefix. -/
import Derived.Test.YtbnmpopcnpjjdaaPBase0x2
import Derived.Test.YtbnmpopcnpjjdaaHandB
import Derived.Laws.BitsAllLaws
import Derived.Shelf.Strings.Builder1
set_option linter.unusedVariables false
namespace Go.Proofs.Ytbnmpopcnpjjdaa.Hand
open Go.RowKit Go.Proofs.YtbnmpopcnpjjdaaW.PrintWords Go.Proofs.YtbnmpopcnpjjdaaW.PrintLast Go.Proofs.YtbnmpopcnpjjdaaW.PrintMore Go.Proofs.Ytbnmpopcnpjjdaa.PBase0
open Go.Shelf Go.Proofs
def shelf_lays169_ren : Go.Shelf.Ren := ⟨fun | 169 => 31 | n => n, fun | 70 => 53 | 9 => 9 | 0 => 0 | 72 => 55 | 37 => 35 | 127 => 61 | 3 => 3 | 5 => 5 | n => n, fun | n => n⟩
theorem shelf_lays169 : Go.Proofs.Lays.n169 Try.prog shelf_lays169_ren := {
  mixed := by kernel_rfl
  f169 := Try.func31.trans (congrArg some (by kernel_rfl))
  t0 := Try.underlying0
  a0 := Try.isAgg0
  z0 := Try.sizeOf0
  v0 := Try.zeroValue0
  t3 := Try.underlying3
  a3 := Try.isAgg3
  z3 := Try.sizeOf3
  v3 := Try.zeroValue3
  t9 := Try.underlying9
  a9 := Try.isAgg9
  z9 := Try.sizeOf9
  v9 := Try.zeroValue9
  t37 := Try.underlying35
  a37 := Try.isAgg35
  z37 := Try.sizeOf35
  v37 := Try.zeroValue35
  t70 := Try.underlying53
  a70 := Try.isAgg53
  z70 := Try.sizeOf53
  v70 := Try.zeroValue53
  t72 := Try.underlying55
  a72 := Try.isAgg55
  z72 := Try.sizeOf55
  v72 := Try.zeroValue55
  t127 := Try.underlying61
  a127 := Try.isAgg61
  z127 := Try.sizeOf61
  v127 := Try.zeroValue61 }
theorem shelf_Builder_Extra_169 : Builder.Extra Try.prog shelf_lays169_ren := {
  sizeBuilder := by kernel_rfl
  liesBuilder := by kernel_rfl
  t5 := Try.underlying5
  a5 := Try.isAgg5
  z5 := Try.sizeOf5
  v5 := Try.zeroValue5
  infoByte := by kernel_rfl
  cellsByte := by kernel_rfl
  sizeByte := by kernel_rfl
  neB5 := by decide }
open Go.RowKit in
/-- String of a builder, whatever it holds: laid from the shelf. -/
theorem shelf_Builder_String_any (B b : Nat) (l : List UInt8) (w : World) (h : Lib.IsBuilder 55 5 B b (Lib.byteCells l) w) (hBw : B ≤ w.heap.size) :
    Calls Try.prog 31 #[.pointer (some ⟨b, 0, none⟩)] w fun e w' => e = .returned (.string ⟨l.toArray⟩) ∧ Below B w w' := Any.Builder_String_any shelf_lays169 shelf_Builder_Extra_169 B b l w h hBw

theorem shr_bit (x : Int) (j : Int) (h0 : 0 ≤ x) (h1 : x ≤ 255) (j0 : 0 ≤ j) (j1 : j ≤ 7) : Go.bits .and .u8 (shr .u8 x j) 1 = x / 2 ^ j.toNat % 2 := by
  unfold shr
  rw [show min j.toNat IntKind.u8.bits = j.toNat by simp [IntKind.bits]; omega]
  have hp : (0 : Int) < 2 ^ j.toNat := Int.pow_pos (by decide)
  have a0 : 0 ≤ x / 2 ^ j.toNat := Int.ediv_nonneg h0 (Int.le_of_lt hp)
  have a1 : x / 2 ^ j.toNat ≤ x := Int.ediv_le_self _ h0
  exact bits_mask .u8 8 (by decide) wraps_u8 1 (by decide) _ a0 (by omega)

/-- The bit of an address at a place. -/
def prefix_Key.bit (a : ByteArray) (k : Nat) : Int := bt a ((k / 8 : Nat) : Int) / 2 ^ (7 - k % 8) % 2
theorem prefix_Key.bit_01 (a : ByteArray) (k : Nat) : 0 ≤ prefix_Key.bit a k ∧ prefix_Key.bit a k ≤ 1 := by unfold prefix_Key.bit; omega
theorem prefix_Key.bit_eq (a : ByteArray) (k : Nat) (hk : k / 8 < a.size) (hb : k < 128) : prefix_bit.f a (k : Int) = some (prefix_Key.bit a k) := by
  have e1 : wrap64 (Int.tdiv (k : Int) 8) = ((k / 8 : Nat) : Int) := by
    rw [Int.tdiv_eq_ediv_of_nonneg (by omega)]; unfold wrap64; omega
  have e2 : wrap64 (7 - Int.tmod (k : Int) 8) = ((7 - k % 8 : Nat) : Int) := by
    rw [Int.tmod_eq_emod_of_nonneg (by omega)]; unfold wrap64; omega
  have ⟨b0, b1⟩ := bt_range a ((k / 8 : Nat) : Int)
  unfold prefix_bit.f
  rw [e1, e2, if_pos (by omega), if_pos (by omega), if_pos (by omega), shr_bit _ _ b0 b1 (by omega) (by omega)]
  rfl
def prefix_Key.lst (a : ByteArray) (n : Nat) : List UInt8 := (List.range n).map fun k => UInt8.ofNat (48 + (prefix_Key.bit a k).toNat)
theorem prefix_Key.lst_length (a : ByteArray) (n : Nat) : (prefix_Key.lst a n).length = n := by simp [prefix_Key.lst]
theorem prefix_Key.lst_succ (a : ByteArray) (n : Nat) : Lib.byteCells (prefix_Key.lst a (n + 1)) = Lib.byteCells (prefix_Key.lst a n) ++ [.int .u8 (48 + prefix_Key.bit a n)] := by
  have ⟨h0, h1⟩ := prefix_Key.bit_01 a n
  have hz : prefix_Key.bit a n = 0 ∨ prefix_Key.bit a n = 1 := by omega
  unfold prefix_Key.lst
  rw [List.range_succ, List.map_append, Lib.byteCells_append]
  rcases hz with h | h <;> simp [Lib.byteCells, h]
def prefix_Key.f (a0_0 : ByteArray) (a0_1 : Int) : Option ByteArray :=
  (prefix_May.f a0_0 a0_1).bind fun m => if m = true then some ⟨(prefix_Key.lst a0_0 a0_1.toNat).toArray⟩ else some (⟨#[]⟩ : ByteArray)
theorem may_bounds {a : ByteArray} {n : Int} (h : prefix_May.f a n = some true) : (a.size = 4 ∨ a.size = 16) ∧ 0 ≤ n ∧ n ≤ 8 * (a.size : Int) := by
  unfold prefix_May.f prefix_Cut.f at h
  by_cases c : (a.size = 4 ∨ a.size = 16) ∧ 0 ≤ n ∧ n ≤ 8 * (a.size : Int)
  · exact c
  · rw [if_neg c] at h
    simp at h

set_option maxHeartbeats 2000000 in
set_option maxRecDepth 100000 in
theorem prefix_Key.no (a0 : ByteArray) (a1 : Int) (w : World) (h : prefix_May.f a0 a1 = some false) :
    Calls Try.prog 26 #[.agg #[.string a0, .int .i64 a1]] w fun e w' => e = .returned (.string (⟨#[]⟩ : ByteArray)) ∧ Below w.heap.size w w' := by
  have H := Lib.hid h
  clear h
  go_enter Try.func26, Try.ntmps26
  go_wp2_with (go_at_call 24; refine (prefix_May.calls _ _ _ _ H.out).mono ?_)
  rintro e w1 ⟨rfl, hb⟩
  go_wp2
  go_ret
  exact ⟨rfl, below_then ((Below.refl _ _).alloc (Nat.le_refl _) _) (by simp) hb⟩

theorem IsBuilder_drewN {T e : TypeId} {B b : Nat} {bs : List Value} {w : World} (h : Lib.IsBuilder T e B b bs w) (n : Nat) : Lib.IsBuilder T e B b bs (w.drewN n) := h

set_option maxHeartbeats 4000000 in
set_option maxRecDepth 100000 in
theorem prefix_Key.yes (a0 : ByteArray) (a1 : Int) (w : World) (h : prefix_May.f a0 a1 = some true) :
    Calls Try.prog 26 #[.agg #[.string a0, .int .i64 a1]] w fun e w' => e = .returned (.string ⟨(prefix_Key.lst a0 a1.toNat).toArray⟩) ∧ Below w.heap.size w w' := by
  obtain ⟨hs, n0, n1⟩ := may_bounds h
  have hs16 : (a0.size : Int) ≤ 16 := by omega
  have H := Lib.hid h
  clear h hs
  go_enter Try.func26, Try.ntmps26
  go_wp2_with (go_at_call 24; refine (prefix_May.calls _ _ _ _ H.out).mono ?_)
  rintro e w1 ⟨rfl, hb⟩
  have BX : Hid (w1.heap[w.heap.size]? = some (.cells #[Value.string a0, Value.int IntKind.i64 a1] 39 (0, 0))) := Lib.hid (blk_below (heap_alloc_new w _) hb)
  have HB1 : Hid (Below w.heap.size w w1) := Lib.hid (below_then ((Below.refl _ _).alloc (Nat.le_refl _) _) (by simp) hb)
  have IB : Hid (Lib.IsBuilder 55 5 w1.heap.size w1.heap.size (Lib.byteCells (prefix_Key.lst a0 0)) (w1.alloc (.cells #[.pointer none, .slice none 0 0] 55))) := Lib.hid (Lib.fresh_isBuilder 55 5 w1)
  have hlt : w.heap.size < w1.heap.size := blk_lt BX.out
  have BX2 : Hid ((w1.alloc (.cells #[.pointer none, .slice none 0 0] 55)).heap[w.heap.size]? = some (.cells #[Value.string a0, Value.int IntKind.i64 a1] 39 (0, 0))) := Lib.hid (blk_alloc BX.out _)
  have hc1 : (w1.alloc (.cells #[.pointer none, .slice none 0 0] 55)).cell? ⟨w.heap.size, 1, none⟩ = some (.int .i64 a1) := (blk_cell BX2.out 1).trans rfl
  have HB2 : Hid (Below w.heap.size w (w1.alloc (.cells #[.pointer none, .slice none 0 0] 55))) := Lib.hid (HB1.out.alloc (Nat.le_of_lt hlt) _)
  have hsz : w1.heap.size < (w1.alloc (.cells #[.pointer none, .slice none 0 0] 55)).heap.size := by simp
  clear hb BX HB1
  go_wp2_with (fail)
  clear hc1
  generalize (w1.alloc (.cells #[.pointer none, .slice none 0 0] 55)) = W0 at IB BX2 HB2 hsz ⊢
  generalize w1.heap.size = b at IB hlt hsz ⊢
  go_loopw [10] (fun v wr => ∃ k : Nat, v = .int .i64 (k : Int) ∧ (k : Int) ≤ a1 ∧ Hid (Lib.IsBuilder 55 5 b b (Lib.byteCells (prefix_Key.lst a0 k)) wr) ∧ Hid (wr.heap[w.heap.size]? = some (.cells #[Value.string a0, Value.int IntKind.i64 a1] 39 (0, 0))) ∧ Hid (Below w.heap.size w wr) ∧ b < wr.heap.size) (fun v _ => (a1 - intOf v).toNat)
  case atStart => exact ⟨0, rfl, n0, IB, BX2, HB2, hsz⟩
  case round =>
    obtain ⟨k, rfl, k1, HI, HX, HD, hbs⟩ := hrel
    clear IB BX2 HB2 hsz
    by_cases hk : (k : Int) < a1
    · have hk8 : k / 8 < a0.size := by omega
      have c0 : wr.cell? ⟨w.heap.size, 0, none⟩ = some (.string a0) := (blk_cell HX.out 0).trans rfl
      have HE := Lib.hid (prefix_Key.bit_eq a0 k hk8 (by omega))
      have ⟨b0, b1⟩ := prefix_Key.bit_01 a0 k
      have HS := Lib.hid (prefix_Key.lst_succ a0 k)
      have HL : (Lib.byteCells (prefix_Key.lst a0 k)).length = k := by rw [Lib.byteCells_length, prefix_Key.lst_length]
      have HLH := Lib.hid HL
      clear HL hk8
      go_wp2_with (go_at_call 30; refine (prefix_bit.calls _ _ _ _ HE.out).mono ?_)
      rintro e w2 ⟨rfl, ⟨⟨nq, rfl⟩⟩⟩
      go_wp2_with (go_at_call 29; refine (writeByte_any b b (Lib.byteCells (prefix_Key.lst a0 k)) _ _ (IsBuilder_drewN HI.out nq) (by rw [HLH.out]; omega) (by simp; omega)).mono ?_)
      rintro e w3 ⟨rfl, hI3, hb3⟩
      clear c0
      go_wp2_with (fail)
      refine ⟨⟨k + 1, rfl, by omega, ?_, ?_, ?_, ?_⟩, by simp [intOf]; omega⟩
      · rw [HS.out]; exact Lib.hid (.inr hI3)
      · exact Lib.hid ((hb3.block _ hlt).trans HX.out)
      · exact Lib.hid ((pw_below_drewN HD.out nq).trans (hb3.mono (Nat.le_of_lt hlt)))
      · have := hb3.size; simp at this; omega
    · have ek : k = a1.toNat := by omega
      have EK := Lib.hid ek
      clear ek
      go_wp2_with (go_at_call 31; refine (shelf_Builder_String_any b b (prefix_Key.lst a0 k) _ HI.out (Nat.le_of_lt hbs)).mono ?_)
      rintro e w3 rfl hb3
      go_wp2_with (fail)
      go_ret
      exact ⟨by rw [← EK.out]; rfl, HD.out.trans (hb3.mono (Nat.le_of_lt hlt))⟩

theorem prefix_Key.calls (a0_0 : ByteArray) (a0_1 : Int) (r : ByteArray) (w : World) (h : prefix_Key.f a0_0 a0_1 = some r) :
    Calls Try.prog 26 #[.agg #[.string a0_0, .int .i64 a0_1]] w fun e w' => e = .returned (.string r) ∧ Below w.heap.size w w' := by
  unfold prefix_Key.f at h
  obtain ⟨m, hm, h⟩ := Option.bind_eq_some_iff.1 h
  cases m with
  | true =>
    simp only [if_true, Option.some.injEq] at h
    subst h
    exact prefix_Key.yes _ _ w hm
  | false =>
    simp only [Bool.false_eq_true, if_false, Option.some.injEq] at h
    subst h
    exact prefix_Key.no _ _ w hm

end Go.Proofs.Ytbnmpopcnpjjdaa.Hand
