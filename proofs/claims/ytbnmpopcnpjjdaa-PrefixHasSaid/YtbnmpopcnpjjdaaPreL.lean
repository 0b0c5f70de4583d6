/- What the functions of package prefix compute, in plain words: bits of addresses. -/
import Derived.Test.YtbnmpopcnpjjdaaPPrex11
import Derived.Test.YtbnmpopcnpjjdaaPPrex12
import Derived.Test.YtbnmpopcnpjjdaaPPrex13
import Derived.Lib.Strings
import Derived.Laws.BitsAllLaws
namespace Go.Proofs.Ytbnmpopcnpjjdaa.PreL
open Go.RowKit Go.Proofs.Ytbnmpopcnpjjdaa.PPre Go.Proofs.Ytbnmpopcnpjjdaa.PBase0 Go.Proofs.Ytbnmpopcnpjjdaa.Hand Go.Proofs.YtbnmpopcnpjjdaaW.PrintWords Go.Proofs.YtbnmpopcnpjjdaaW.PrintLast Go.Proofs.YtbnmpopcnpjjdaaW.PrintMore

theorem awake_eq : bolterlaw12_awake.f = some true := by decide +kernel

theorem u8b {n : Int} (h : (Lit.int .u8 n).wf = true) : 0 ≤ n ∧ n ≤ 255 := by
  simp [Lit.wf, IntKind.min, IntKind.max, IntKind.signed, IntKind.bits] at h; omega
theorem w64 {n : Int} (h0 : 0 ≤ n) (h1 : n ≤ 4611686018427387904) : wrap64 n = n := by unfold wrap64; omega

/-! ### bytes -/
/-- A list of numbers that are bytes. -/
def Bytes (l : List Int) : Prop := ∀ x ∈ l, 0 ≤ x ∧ x ≤ 255
theorem rd_get (l : List Int) (j : Nat) (h : j < l.length) : rd l (j : Int) = l[j] := by simp [rd, List.getD, h]
theorem rd_range {l : List Int} (hl : Bytes l) (i : Int) : 0 ≤ rd l i ∧ rd l i ≤ 255 := by
  unfold rd
  by_cases h : i.toNat < l.length
  · simp only [List.getD_eq_getElem?_getD, List.getElem?_eq_getElem h, Option.getD_some]
    exact hl _ (List.getElem_mem h)
  · simp [List.getD_eq_getElem?_getD, List.getElem?_eq_none (by omega : l.length ≤ i.toNat)]
theorem bytesOf_bytes (s : ByteArray) : Bytes (bytesOf s) := by
  intro x hx
  simp only [bytesOf, List.mem_map] at hx
  obtain ⟨b, _, rfl⟩ := hx
  have := b.toNat_lt
  omega
theorem bt_strOfNums (l : List Int) (hl : Bytes l) (j : Nat) (h : j < l.length) : bt (strOfNums l) (j : Int) = l[j] := by
  have hs : (strOfNums l).size = l.length := strOfNums_size l
  have e := bt_at (strOfNums l) (j : Int) (by simp; omega)
  rw [← e]
  have ⟨h0, h1⟩ := hl _ (List.getElem_mem h)
  have : ((strOfNums l)[((j : Int)).toNat]'(by simp; omega)) = UInt8.ofNat (l[j]).toNat := by
    simp [strOfNums, ByteArray.getElem_eq_getElem_data]
  rw [this]
  simp
  omega
/-- Bit k of a row of bytes, the great ones first. -/
def lbit (l : List Int) (k : Nat) : Int := rd l ((k / 8 : Nat) : Int) / 2 ^ (7 - k % 8) % 2
theorem lbit_bytesOf (s : ByteArray) (k : Nat) : lbit (bytesOf s) k = prefix_Key.bit s k := by
  unfold lbit prefix_Key.bit; rw [rd_bytesOf]
theorem bit_strOfNums (l : List Int) (hl : Bytes l) (k : Nat) (hk : k / 8 < l.length) : prefix_Key.bit (strOfNums l) k = lbit l k := by
  unfold lbit prefix_Key.bit
  rw [bt_strOfNums l hl _ hk, rd_get l _ hk]

theorem clear_bit : ∀ x : Fin 256, ∀ j i : Fin 8, ((x.val &&& (255 - 2 ^ (7 - j.val) % 256)) / 2 ^ (7 - i.val) % 2) = if i = j then 0 else x.val / 2 ^ (7 - i.val) % 2 := by decide +kernel
theorem set_bit : ∀ x : Fin 256, ∀ j i : Fin 8, ((x.val ||| (2 ^ (7 - j.val) % 256)) / 2 ^ (7 - i.val) % 2) = if i = j then 1 else x.val / 2 ^ (7 - i.val) % 2 := by decide +kernel

theorem andNot_bits (x : Int) (j : Nat) (h0 : 0 ≤ x) (h1 : x ≤ 255) (hj : j ≤ 7) :
    0 ≤ Go.bits .andNot .u8 x (2 ^ (7 - (j : Int)).toNat % 256) ∧ Go.bits .andNot .u8 x (2 ^ (7 - (j : Int)).toNat % 256) ≤ 255 ∧
    ∀ i : Nat, i ≤ 7 → Go.bits .andNot .u8 x (2 ^ (7 - (j : Int)).toNat % 256) / 2 ^ (7 - i) % 2 = if i = j then 0 else x / 2 ^ (7 - i) % 2 := by
  obtain ⟨n, rfl⟩ : ∃ n : Nat, x = (n : Int) := ⟨x.toNat, by omega⟩
  have e : (2 : Int) ^ (7 - (j : Int)).toNat % 256 = ((2 ^ (7 - j) % 256 : Nat) : Int) := by
    rw [show (7 - (j : Int)).toNat = 7 - j by omega]; simp
  rw [e, u8_andNot_nat n _ (by omega) (Nat.mod_lt _ (by decide))]
  have hle : n &&& (255 - 2 ^ (7 - j) % 256) ≤ n := Nat.and_le_left
  refine ⟨by omega, by omega, fun i hi => ?_⟩
  have := clear_bit ⟨n, by omega⟩ ⟨j, by omega⟩ ⟨i, by omega⟩
  simp only [Fin.mk.injEq] at this
  have c : (((n &&& (255 - 2 ^ (7 - j) % 256) : Nat) : Int) / 2 ^ (7 - i) % 2) = (((n &&& (255 - 2 ^ (7 - j) % 256)) / 2 ^ (7 - i) % 2 : Nat) : Int) := by simp
  rw [c, this]
  split <;> simp
theorem or_bits (x : Int) (j : Nat) (h0 : 0 ≤ x) (h1 : x ≤ 255) (hj : j ≤ 7) :
    0 ≤ Go.bits .or .u8 x (2 ^ (7 - (j : Int)).toNat % 256) ∧ Go.bits .or .u8 x (2 ^ (7 - (j : Int)).toNat % 256) ≤ 255 ∧
    ∀ i : Nat, i ≤ 7 → Go.bits .or .u8 x (2 ^ (7 - (j : Int)).toNat % 256) / 2 ^ (7 - i) % 2 = if i = j then 1 else x / 2 ^ (7 - i) % 2 := by
  obtain ⟨n, rfl⟩ : ∃ n : Nat, x = (n : Int) := ⟨x.toNat, by omega⟩
  have e : (2 : Int) ^ (7 - (j : Int)).toNat % 256 = ((2 ^ (7 - j) % 256 : Nat) : Int) := by
    rw [show (7 - (j : Int)).toNat = 7 - j by omega]; simp
  have hm : 2 ^ (7 - j) % 256 < 2 ^ 8 := Nat.mod_lt _ (by decide)
  rw [e, u8_or_nat n _ (by omega) hm]
  have hle : n ||| (2 ^ (7 - j) % 256) < 2 ^ 8 := Nat.or_lt_two_pow (by omega) hm
  refine ⟨by omega, by omega, fun i hi => ?_⟩
  have := set_bit ⟨n, by omega⟩ ⟨j, by omega⟩ ⟨i, by omega⟩
  simp only [Fin.mk.injEq] at this
  have c : (((n ||| (2 ^ (7 - j) % 256) : Nat) : Int) / 2 ^ (7 - i) % 2) = (((n ||| (2 ^ (7 - j) % 256)) / 2 ^ (7 - i) % 2 : Nat) : Int) := by simp
  rw [c, this]
  split <;> simp

theorem rd_set (l : List Int) (a : Nat) (v : Int) (b : Nat) (ha : a < l.length) : rd (l.set a v) (b : Int) = if b = a then v else rd l (b : Int) := by
  unfold rd
  simp only [Int.toNat_natCast, List.getD_eq_getElem?_getD, List.getElem?_set]
  by_cases h : a = b
  · subst h; simp [ha]
  · rw [if_neg h, if_neg (fun e => h e.symm)]
theorem set_bytes {l : List Int} (hl : Bytes l) (a : Nat) (v : Int) (hv : 0 ≤ v ∧ v ≤ 255) : Bytes (l.set a v) := by
  intro x hx
  rcases List.mem_or_eq_of_mem_set hx with h | h
  · exact hl x h
  · subst h; exact hv

/-- Clearing bit k of a row of bytes. -/
theorem clear_at (l : List Int) (hl : Bytes l) (k : Nat) (hk : k / 8 < l.length) :
    Bytes (l.set (k / 8) (Go.bits .andNot .u8 (rd l ((k / 8 : Nat) : Int)) (2 ^ (7 - ((k % 8 : Nat) : Int)).toNat % 256))) ∧
    ∀ i : Nat, lbit (l.set (k / 8) (Go.bits .andNot .u8 (rd l ((k / 8 : Nat) : Int)) (2 ^ (7 - ((k % 8 : Nat) : Int)).toNat % 256))) i = if i = k then 0 else lbit l i := by
  have ⟨r0, r1⟩ := rd_range hl ((k / 8 : Nat) : Int)
  have ⟨a0, a1, hb⟩ := andNot_bits _ (k % 8) r0 r1 (by omega)
  refine ⟨set_bytes hl _ _ ⟨a0, a1⟩, fun i => ?_⟩
  unfold lbit
  rw [rd_set l _ _ _ hk]
  by_cases e : i / 8 = k / 8
  · rw [if_pos e, hb (i % 8) (by omega), e]
    by_cases e2 : i % 8 = k % 8
    · rw [if_pos e2, if_pos (by omega)]
    · rw [if_neg e2, if_neg (by omega)]
  · rw [if_neg e, if_neg (by intro h; exact e (by rw [h]))]
theorem set_at (l : List Int) (hl : Bytes l) (k : Nat) (hk : k / 8 < l.length) :
    Bytes (l.set (k / 8) (Go.bits .or .u8 (rd l ((k / 8 : Nat) : Int)) (2 ^ (7 - ((k % 8 : Nat) : Int)).toNat % 256))) ∧
    ∀ i : Nat, lbit (l.set (k / 8) (Go.bits .or .u8 (rd l ((k / 8 : Nat) : Int)) (2 ^ (7 - ((k % 8 : Nat) : Int)).toNat % 256))) i = if i = k then 1 else lbit l i := by
  have ⟨r0, r1⟩ := rd_range hl ((k / 8 : Nat) : Int)
  have ⟨a0, a1, hb⟩ := or_bits _ (k % 8) r0 r1 (by omega)
  refine ⟨set_bytes hl _ _ ⟨a0, a1⟩, fun i => ?_⟩
  unfold lbit
  rw [rd_set l _ _ _ hk]
  by_cases e : i / 8 = k / 8
  · rw [if_pos e, hb (i % 8) (by omega), e]
    by_cases e2 : i % 8 = k % 8
    · rw [if_pos e2, if_pos (by omega)]
    · rw [if_neg e2, if_neg (by omega)]
  · rw [if_neg e, if_neg (by intro h; exact e (by rw [h]))]

/-! ### Cut -/
theorem lp_bits (d : Nat) : ∀ (l : List Int) (k : Nat), Bytes l → 8 * l.length = k + d →
    Bytes (prefix_Cut.lp d l (k : Int)) ∧ ∀ i : Nat, i < 8 * l.length → lbit (prefix_Cut.lp d l (k : Int)) i = if i < k then lbit l i else 0 := by
  induction d with
  | zero => intro l k hl hd; exact ⟨hl, fun i hi => by rw [if_pos (by omega)]; rfl⟩
  | succ d ih =>
    intro l k hl hd
    have ⟨h1, h2⟩ := clear_at l hl k (by omega)
    rw [prefix_Cut.lp]
    rw [show ((k : Int) / 8).toNat = k / 8 by omega, show (k : Int) / 8 = ((k / 8 : Nat) : Int) by omega, show (k : Int) % 8 = ((k % 8 : Nat) : Int) by omega, show (k : Int) + 1 = ((k + 1 : Nat) : Int) by omega]
    have ⟨b, hb⟩ := ih _ (k + 1) h1 (by rw [List.length_set]; omega)
    refine ⟨b, fun i hi => ?_⟩
    rw [hb i (by rw [List.length_set]; exact hi), h2]
    by_cases e : i = k
    · subst e; simp
    · by_cases e2 : i < k
      · rw [if_pos (by omega), if_neg e, if_pos e2]
      · rw [if_neg (by omega), if_neg e2]

def IsAdr (a : ByteArray) : Prop := a.size = 4 ∨ a.size = 16
instance (a : ByteArray) : Decidable (IsAdr a) := by unfold IsAdr; infer_instance
/-- An address's first n bits, the others 0. -/
def cutS (a : ByteArray) (n : Int) : ByteArray := strOfNums (prefix_Cut.lp (8 * (a.size : Int) - n).toNat (bytesOf a) n)
theorem cut_eq (a : ByteArray) (n : Int) : prefix_Cut.f a n = if IsAdr a ∧ 0 ≤ n ∧ n ≤ 8 * (a.size : Int) then some (cutS a n, n, true) else some ((⟨#[]⟩ : ByteArray), 0, false) := rfl
theorem cutS_size (a : ByteArray) (n : Int) : (cutS a n).size = a.size := by
  unfold cutS; rw [strOfNums_size, prefix_Cut.lp_length, bytesOf_length]
theorem cutS_bit (a : ByteArray) (n : Nat) (hn : n ≤ 8 * a.size) (i : Nat) (hi : i < 8 * a.size) : prefix_Key.bit (cutS a n) i = if i < n then prefix_Key.bit a i else 0 := by
  have hl := bytesOf_length a
  have ⟨b, hb⟩ := lp_bits (8 * (a.size : Int) - n).toNat (bytesOf a) n (bytesOf_bytes a) (by rw [hl]; omega)
  unfold cutS
  rw [bit_strOfNums _ b _ (by rw [prefix_Cut.lp_length, hl]; omega), hb i (by rw [hl]; exact hi), lbit_bytesOf]

theorem byte_ext (x y : Int) (h0 : 0 ≤ x ∧ x ≤ 255) (h1 : 0 ≤ y ∧ y ≤ 255) (h : ∀ i : Nat, i ≤ 7 → x / 2 ^ (7 - i) % 2 = y / 2 ^ (7 - i) % 2) : x = y := by
  have a0 := h 0 (by decide); have a1 := h 1 (by decide); have a2 := h 2 (by decide); have a3 := h 3 (by decide)
  have a4 := h 4 (by decide); have a5 := h 5 (by decide); have a6 := h 6 (by decide); have a7 := h 7 (by decide)
  simp at a0 a1 a2 a3 a4 a5 a6 a7
  omega
/-- Addresses of one length whose bits are the same are the same. -/
theorem bits_ext (a b : ByteArray) (hs : a.size = b.size) (h : ∀ i : Nat, i < 8 * a.size → prefix_Key.bit a i = prefix_Key.bit b i) : a = b := by
  have e : a.data = b.data := by
    apply Array.ext
    · exact hs
    · intro i h1 h2
      have hi : i < a.size := h1
      have hi2 : i < b.size := h2
      have x : bt a (i : Int) = bt b (i : Int) := by
        refine byte_ext _ _ (bt_range a i) (bt_range b i) fun j hj => ?_
        have := h (8 * i + j) (by omega)
        unfold prefix_Key.bit at this
        rw [show (8 * i + j) / 8 = i by omega, show (8 * i + j) % 8 = j by omega] at this
        exact this
      have xa := bt_at a (i : Int) (by simpa using hi)
      have xb := bt_at b (i : Int) (by simpa using hi2)
      rw [← xa, ← xb] at x
      apply UInt8.toNat_inj.1
      have y : ((a.data[i].toNat : Nat) : Int) = (b.data[i].toNat : Nat) := by simpa [ByteArray.getElem_eq_getElem_data] using x
      exact Int.ofNat.inj y
  cases a; cases b
  simpa using e

theorem toList_eq (a b : ByteArray) : (a.toList == b.toList) = decide (a = b) := by
  rw [Bool.eq_iff_iff, beq_iff_eq, decide_eq_true_eq, Lib.toList_data, Lib.toList_data]
  constructor
  · intro h
    cases a; cases b
    simpa using h
  · intro h; rw [h]
theorem cutS_bits (a b : ByteArray) (n : Nat) (hs : a.size = b.size) (hn : n ≤ 8 * a.size) : cutS a n = cutS b n ↔ ∀ i, i < n → prefix_Key.bit a i = prefix_Key.bit b i := by
  constructor
  · intro h i hi
    have h1 := cutS_bit a n hn i (by omega)
    have h2 := cutS_bit b n (by omega) i (by omega)
    rw [if_pos hi] at h1 h2
    rw [← h1, ← h2, h]
  · intro h
    refine bits_ext _ _ (by rw [cutS_size, cutS_size, hs]) fun i hi => ?_
    rw [cutS_size] at hi
    rw [cutS_bit a n hn i hi, cutS_bit b n (by omega) i (by omega)]
    split
    · rename_i h3; exact h i h3
    · rfl
theorem cutS_idem (a : ByteArray) (n : Nat) (hn : n ≤ 8 * a.size) : cutS (cutS a n) n = cutS a n := by
  refine (cutS_bits _ _ n (cutS_size _ _) (by rw [cutS_size]; exact hn)).2 fun i hi => ?_
  rw [cutS_bit a n hn i (by omega), if_pos hi]
theorem may_eq (a : ByteArray) (n : Int) : prefix_May.f a n = some (decide (IsAdr a ∧ 0 ≤ n ∧ n ≤ 8 * (a.size : Int) ∧ cutS a n = a)) := by
  unfold prefix_May.f
  rw [cut_eq]
  by_cases c : IsAdr a ∧ 0 ≤ n ∧ n ≤ 8 * (a.size : Int)
  · rw [if_pos c]
    simp only [Option.bind_some, if_true, toList_eq, beq_self_eq_true, Bool.and_true]
    congr 1
    rw [decide_eq_decide]
    exact ⟨fun h => ⟨c.1, c.2.1, c.2.2, h⟩, fun h => h.2.2.2⟩
  · rw [if_neg c]
    simp only [Option.bind_some, Bool.false_eq_true, if_false]
    congr 1
    symm
    rw [decide_eq_false_iff_not]
    exact fun h => c ⟨h.1, h.2.1, h.2.2.1⟩
theorem has_eq (p : ByteArray) (n : Int) (b : ByteArray) : prefix_Has.f p n b = some (decide ((IsAdr b ∧ 0 ≤ n ∧ n ≤ 8 * (b.size : Int)) ∧ (IsAdr p ∧ 0 ≤ n ∧ n ≤ 8 * (p.size : Int) ∧ cutS p n = p) ∧ cutS b n = p)) := by
  unfold prefix_Has.f
  rw [cut_eq, may_eq]
  by_cases c : IsAdr b ∧ 0 ≤ n ∧ n ≤ 8 * (b.size : Int)
  · rw [if_pos c]
    simp only [Option.bind_some, if_true, toList_eq, beq_self_eq_true, Bool.and_true]
    by_cases d : IsAdr p ∧ 0 ≤ n ∧ n ≤ 8 * (p.size : Int) ∧ cutS p n = p
    · rw [if_pos (decide_eq_true d)]
      congr 1
      rw [decide_eq_decide]
      exact ⟨fun h => ⟨c, d, h⟩, fun h => h.2.2⟩
    · rw [if_neg (by simpa using d)]
      congr 1
      symm
      rw [decide_eq_false_iff_not]
      exact fun h => d h.2.1
  · rw [if_neg c]
    simp only [Option.bind_some, Bool.false_eq_true, if_false]
    congr 1
    symm
    rw [decide_eq_false_iff_not]
    exact fun h => c h.1
/-- The first bits of an address are a prefix. -/
theorem may_cut (a : ByteArray) (n : Nat) (ha : IsAdr a) (hn : n ≤ 8 * a.size) : prefix_May.f (cutS a n) n = some true := by
  rw [may_eq]
  congr 1
  rw [decide_eq_true_eq]
  refine ⟨?_, by omega, by rw [cutS_size]; omega, cutS_idem a n hn⟩
  unfold IsAdr; rw [cutS_size]; exact ha
theorem has_cut (a b : ByteArray) (n : Nat) (ha : IsAdr a) (hn : n ≤ 8 * a.size) : prefix_Has.f (cutS a n) n b = some (decide (a.size = b.size ∧ ∀ i, i < n → prefix_Key.bit a i = prefix_Key.bit b i)) := by
  rw [has_eq]
  congr 1
  rw [decide_eq_decide]
  constructor
  · rintro ⟨⟨h1, h2, h3⟩, _, h5⟩
    have hs : a.size = b.size := by rw [← cutS_size a n, ← h5, cutS_size]
    exact ⟨hs, (cutS_bits a b n hs hn).1 h5.symm⟩
  · rintro ⟨hs, h⟩
    have hg : IsAdr b := by unfold IsAdr; rw [← hs]; exact ha
    refine ⟨⟨hg, by omega, by omega⟩, ⟨?_, by omega, by rw [cutS_size]; omega, cutS_idem a n hn⟩, ((cutS_bits a b n hs hn).2 h).symm⟩
    unfold IsAdr; rw [cutS_size]; exact ha

/-! ### the signs -/
theorem lst_get (a : ByteArray) (n i : Nat) (hi : i < n) : (prefix_Key.lst a n)[i]'(by rw [prefix_Key.lst_length]; exact hi) = UInt8.ofNat (48 + (prefix_Key.bit a i).toNat) := by
  simp [prefix_Key.lst]
/-- The text of an address's first bits. -/
def sgn (a : ByteArray) (n : Nat) : ByteArray := ⟨(prefix_Key.lst a n).toArray⟩
theorem sgn_size (a : ByteArray) (n : Nat) : (sgn a n).size = n := by
  show ((prefix_Key.lst a n).toArray).size = n
  simp [prefix_Key.lst_length]
theorem bt_sgn (a : ByteArray) (n i : Nat) (hi : i < n) : bt (sgn a n) (i : Int) = 48 + prefix_Key.bit a i := by
  have e := bt_at (sgn a n) (i : Int) (by rw [sgn_size]; simpa using hi)
  rw [← e]
  have ⟨h0, h1⟩ := prefix_Key.bit_01 a i
  have : ((sgn a n)[((i : Int)).toNat]'(by rw [sgn_size]; simpa using hi)) = UInt8.ofNat (48 + (prefix_Key.bit a i).toNat) := by
    have := lst_get a n i hi
    simpa [sgn, ByteArray.getElem_eq_getElem_data] using this
  rw [this]
  simp
  omega
theorem sgn_snoc (a : ByteArray) (n : Nat) : sgn a (n + 1) = sgn a n ++ (⟨#[UInt8.ofNat (48 + (prefix_Key.bit a n).toNat)]⟩ : ByteArray) := by
  unfold sgn
  apply ByteArray.ext
  rw [ByteArray.data_append]
  simp [prefix_Key.lst, List.range_succ]
theorem sgn_take (a : ByteArray) (n m : Nat) (h : n ≤ m) : ((sgn a m).extract 0 n).toList = (sgn a n).toList := by
  rw [Lib.toList_data, Lib.toList_data, Lib.extract_data]
  simp [sgn, prefix_Key.lst, ← List.map_take, List.take_range, Nat.min_eq_left h]
theorem sgn_eq (a b : ByteArray) (n : Nat) : (sgn a n).toList = (sgn b n).toList ↔ ∀ i, i < n → prefix_Key.bit a i = prefix_Key.bit b i := by
  constructor
  · intro h i hi
    have e : sgn a n = sgn b n := by
      have := toList_eq (sgn a n) (sgn b n)
      rw [h] at this; simpa using this
    have h1 := bt_sgn a n i hi
    have h2 := bt_sgn b n i hi
    rw [e] at h1
    omega
  · intro h
    have : prefix_Key.lst a n = prefix_Key.lst b n := by
      unfold prefix_Key.lst
      apply List.map_congr_left
      intro i hi
      rw [h i (by simpa using hi)]
    unfold sgn; rw [this]
theorem key_eq (a : ByteArray) (n : Int) : prefix_Key.f a n = if IsAdr a ∧ 0 ≤ n ∧ n ≤ 8 * (a.size : Int) ∧ cutS a n = a then some (sgn a n.toNat) else some (⟨#[]⟩ : ByteArray) := by
  unfold prefix_Key.f
  rw [may_eq]
  by_cases c : IsAdr a ∧ 0 ≤ n ∧ n ≤ 8 * (a.size : Int) ∧ cutS a n = a
  · rw [if_pos c]; simp [c]; rfl
  · rw [if_neg c]; simp [c]

/-! ### bits -/
theorem bits_step (a : ByteArray) (ha : a.size ≤ 16) (k i j : Nat) (hi : i < a.size) (hj : j < 8) :
    bolterlaw12_bits.l1 (k + 1) a (sgn a (8 * i + j)) i (2 ^ (7 - j)) = bolterlaw12_bits.l1 k a (sgn a (8 * i + j + 1)) i (if j = 7 then 0 else 2 ^ (6 - j)) := by
  have hsz := sgn_size a (8 * i + j)
  have ⟨r0, r1⟩ := bt_range a (i : Int)
  have hb : prefix_Key.bit a (8 * i + j) = bt a (i : Int) / 2 ^ (7 - j) % 2 := by
    unfold prefix_Key.bit
    rw [show (8 * i + j) / 8 = i by omega, show (8 * i + j) % 8 = j by omega]
  have hsn := sgn_snoc a (8 * i + j)
  rw [hb] at hsn
  have hp : (0 : Int) < 2 ^ (7 - j) := Int.pow_pos (by decide)
  have hp2 : (2 : Int) ^ (7 - j) ≤ 128 := by
    have : j = 0 ∨ j = 1 ∨ j = 2 ∨ j = 3 ∨ j = 4 ∨ j = 5 ∨ j = 6 ∨ j = 7 := by omega
    rcases this with h | h | h | h | h | h | h | h <;> subst h <;> decide
  have hv : wrap64 (Int.tdiv (2 ^ (7 - j)) 2) = if j = 7 then 0 else 2 ^ (6 - j) := by
    have : j = 0 ∨ j = 1 ∨ j = 2 ∨ j = 3 ∨ j = 4 ∨ j = 5 ∨ j = 6 ∨ j = 7 := by omega
    rcases this with h | h | h | h | h | h | h | h <;> subst h <;> decide +kernel
  have hd : wrap64 (Int.tdiv (wrap64 (bt a (i : Int))) (2 ^ (7 - j))) = bt a (i : Int) / 2 ^ (7 - j) := by
    have d0 : 0 ≤ bt a (i : Int) / 2 ^ (7 - j) := Int.ediv_nonneg r0 (Int.le_of_lt hp)
    have d1 : bt a (i : Int) / 2 ^ (7 - j) ≤ bt a (i : Int) := Int.ediv_le_self _ r0
    rw [w64 r0 (by omega), Int.tdiv_eq_ediv_of_nonneg r0, w64 d0 (by omega)]
  have hm : Int.tmod (bt a (i : Int) / 2 ^ (7 - j)) 2 = bt a (i : Int) / 2 ^ (7 - j) % 2 := Int.tmod_eq_emod_of_nonneg (Int.ediv_nonneg r0 (Int.le_of_lt hp))
  simp only [bolterlaw12_bits.l1]
  rw [if_pos hp, if_pos (by omega), if_pos (by omega), if_neg (by omega), hd, hm, hv]
  have h01 : bt a (i : Int) / 2 ^ (7 - j) % 2 = 0 ∨ bt a (i : Int) / 2 ^ (7 - j) % 2 = 1 := by omega
  rcases h01 with h | h
  · rw [if_neg (by omega), if_pos (by rw [hsz]; omega)]; rw [h] at hsn; rw [hsn]; rfl
  · rw [if_pos h, if_pos (by rw [hsz]; omega)]; rw [h] at hsn; rw [hsn]; rfl
theorem bits_loop (a : ByteArray) (ha : a.size ≤ 16) (d : Nat) : ∀ (k i : Nat), a.size = i + d → 10 * d < k →
    bolterlaw12_bits.l0 k a (sgn a (8 * i)) i = some (sgn a (8 * a.size)) := by
  induction d with
  | zero =>
    intro k i hd hk
    obtain ⟨k, rfl⟩ : ∃ m, k = m + 1 := ⟨k - 1, by omega⟩
    simp only [bolterlaw12_bits.l0]
    rw [if_neg (by omega), show a.size = i by omega]
  | succ d ih =>
    intro k i hd hk
    obtain ⟨k, rfl⟩ : ∃ m, k = m + 10 := ⟨k - 10, by omega⟩
    have hi : i < a.size := by omega
    simp only [bolterlaw12_bits.l0]
    rw [if_pos (by omega)]
    have s0 := bits_step a ha (k + 8) i 0 hi (by omega)
    have s1 := bits_step a ha (k + 7) i 1 hi (by omega)
    have s2 := bits_step a ha (k + 6) i 2 hi (by omega)
    have s3 := bits_step a ha (k + 5) i 3 hi (by omega)
    have s4 := bits_step a ha (k + 4) i 4 hi (by omega)
    have s5 := bits_step a ha (k + 3) i 5 hi (by omega)
    have s6 := bits_step a ha (k + 2) i 6 hi (by omega)
    have s7 := bits_step a ha (k + 1) i 7 hi (by omega)
    simp at s0 s1 s2 s3 s4 s5 s6 s7
    rw [s0, s1, s2, s3, s4, s5, s6, s7]
    simp only [bolterlaw12_bits.l1]
    rw [if_neg (by omega), w64 (by omega) (by omega)]
    exact ih k (i + 1) (by omega) (by omega)
theorem bits_ev (a : ByteArray) (ha : a.size ≤ 16) : Ev (fun k => bolterlaw12_bits.f k a) (sgn a (8 * a.size)) := by
  refine Ev.of (k := 10 * a.size + 1) (fun k => bolterlaw12_bits.mono a k) ?_
  exact bits_loop a ha a.size (10 * a.size + 1) 0 (by omega) (by omega)

/-! ### Addr -/
theorem addr_loop (ns : List Int) (hl : ns.length * 1 ≤ 140737488351232) (hx : ∀ x ∈ ns, (Lit.int .u8 x).wf = true) (d : Nat) :
    ∀ (k i : Nat) (x5 : List Int), (x5.length = 4 ∨ x5.length = 16) → ns.length = i + d → d < k → ∃ r, bolterlaw12_Addr.l0 k x5 ns (ns.length : Int) i = some r ∧ r.size = x5.length := by
  induction d with
  | zero =>
    intro k i x5 h5 hd hk
    obtain ⟨k, rfl⟩ : ∃ m, k = m + 1 := ⟨k - 1, by omega⟩
    refine ⟨strOfNums x5, ?_, strOfNums_size x5⟩
    simp only [bolterlaw12_Addr.l0]
    rw [if_neg (by omega)]
  | succ d ih =>
    intro k i x5 h5 hd hk
    obtain ⟨k, rfl⟩ : ∃ m, k = m + 1 := ⟨k - 1, by omega⟩
    have hi : i < ns.length := by omega
    have ⟨n0, n1⟩ := u8b (hx _ (List.getElem_mem hi))
    have hr : rd ns (i : Int) = ns[i] := rd_get ns i hi
    simp only [bolterlaw12_Addr.l0]
    rw [if_pos (by omega), if_pos (by omega), if_pos (by omega), hr, w64 (n := (i : Int) + 1) (by omega) (by omega)]
    by_cases h : (i : Int) < (x5.length : Int)
    · rw [if_pos h, if_neg (by omega)]
      simp only [Option.bind_some]
      have m0 : 0 ≤ Int.tmod ns[i] 6 := Int.tmod_nonneg _ n0
      have m1 : Int.tmod ns[i] 6 < 6 := Int.tmod_lt_of_pos _ (by decide)
      rw [w64 (n := (i : Int) * 7) (by omega) (by omega)]
      have q0 : 0 ≤ Int.tmod ((i : Int) * 7) (x5.length : Int) := Int.tmod_nonneg _ (by omega)
      have q1 : Int.tmod ((i : Int) * 7) (x5.length : Int) < (x5.length : Int) := Int.tmod_lt_of_pos _ (by omega)
      rw [if_pos m0, if_pos (by simpa using m1), if_pos q0, if_pos q1]
      obtain ⟨r, h1, h2⟩ := ih k (i + 1) (x5.set (Int.tmod ((i : Int) * 7) (x5.length : Int)).toNat (rd [0, 1, 128, 255, 192, ns[i]] (Int.tmod ns[i] 6))) (by rw [List.length_set]; exact h5) (by omega) (by omega)
      exact ⟨r, h1, by rw [h2, List.length_set]⟩
    · rw [if_neg h]
      exact ih k (i + 1) x5 h5 (by omega) (by omega)
theorem addr_ev (six : Bool) (ns : List Int) (hl : ns.length * 1 ≤ 140737488351232) (hx : ∀ x ∈ ns, (Lit.int .u8 x).wf = true) :
    ∃ r, Ev (fun k => bolterlaw12_Addr.f k six ns) r ∧ r.size = if six then 16 else 4 := by
  cases six with
  | true =>
    obtain ⟨r, h1, h2⟩ := addr_loop ns hl hx ns.length (ns.length + 1) 0 (List.replicate 16 0) (by simp) (by omega) (by omega)
    refine ⟨r, Ev.of (k := ns.length + 2) (fun k => bolterlaw12_Addr.mono true ns k) ?_, by rw [h2]; simp⟩
    unfold bolterlaw12_Addr.f
    rw [if_pos (by decide), if_pos rfl, if_pos (by decide)]
    simp only [bolterlaw12_Addr.j0]
    exact h1
  | false =>
    obtain ⟨r, h1, h2⟩ := addr_loop ns hl hx ns.length (ns.length + 1) 0 (List.replicate 4 0) (by simp) (by omega) (by omega)
    refine ⟨r, Ev.of (k := ns.length + 2) (fun k => bolterlaw12_Addr.mono false ns k) ?_, by rw [h2]; simp⟩
    unfold bolterlaw12_Addr.f
    rw [if_pos (by decide), if_neg (by decide)]
    simp only [bolterlaw12_Addr.j0]
    exact h1
theorem addr_good {six : Bool} {r : ByteArray} (h : r.size = if six then 16 else 4) : IsAdr r ∧ r.size ≤ 16 := by
  unfold IsAdr
  cases six <;> simp at h <;> omega
end Go.Proofs.Ytbnmpopcnpjjdaa.PreL
