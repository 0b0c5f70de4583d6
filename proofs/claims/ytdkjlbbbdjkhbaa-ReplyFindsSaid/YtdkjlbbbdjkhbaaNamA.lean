/- What the functions of package name compute, in plain words; the words and names that the statements are about. -/
import Derived.Test.YtdkjlbbbdjkhbaaPAllx8
import Derived.Test.YtdkjlbbbdjkhbaaPAllx31
import Derived.Lib.Strings
set_option linter.unusedVariables false
namespace Go.Proofs.Ytdkjlbbbdjkhbaa.NamL
open Go.RowKit Go.Proofs.Ytdkjlbbbdjkhbaa.PAll Go.Proofs.Ytdkjlbbbdjkhbaa.Hand Go.Proofs.YtdkjlbbbdjkhbaaW.PrintWords Go.Proofs.YtdkjlbbbdjkhbaaW.PrintLast


theorem u8b {n : Int} (h : (Lit.int .u8 n).wf = true) : 0 ≤ n ∧ n ≤ 255 := by
  simp [Lit.wf, IntKind.min, IntKind.max, IntKind.signed, IntKind.bits] at h; omega
theorem w64 {n : Int} (h0 : 0 ≤ n) (h1 : n ≤ 4611686018427387904) : wrap64 n = n := by unfold wrap64; omega

/-! ### texts as lists of bytes -/
def B (s : ByteArray) : List UInt8 := s.data.toList
def mkB (l : List UInt8) : ByteArray := ⟨l.toArray⟩
theorem B_mkB (l : List UInt8) : B (mkB l) = l := rfl
theorem mkB_B (s : ByteArray) : mkB (B s) = s := by cases s; rfl
theorem B_length (s : ByteArray) : (B s).length = s.size := by unfold B; rw [Array.length_toList]; rfl
theorem mkB_size (l : List UInt8) : (mkB l).size = l.length := by rw [← B_length, B_mkB]
theorem B_inj {s t : ByteArray} (h : B s = B t) : s = t := by rw [← mkB_B s, ← mkB_B t, h]
theorem toList_B (s : ByteArray) : s.toList = B s := Lib.toList_data s
theorem toList_iff (s t : ByteArray) : s.toList = t.toList ↔ s = t := by
  rw [toList_B, toList_B]; exact ⟨B_inj, fun h => by rw [h]⟩
theorem toList_beq (s t : ByteArray) : (s.toList == t.toList) = decide (s = t) := by
  rw [Bool.eq_iff_iff, beq_iff_eq, decide_eq_true_eq, toList_iff]
theorem B_append (s t : ByteArray) : B (s ++ t) = B s ++ B t := by unfold B; rw [ByteArray.data_append]; simp
theorem B_extract (s : ByteArray) (a b : Nat) : B (s.extract a b) = (B s |>.drop a).take (b - a) := by
  rw [Lib.extract_eq]; rfl
theorem extract_mk (l : List UInt8) (a b : Nat) : (mkB l).extract a b = mkB ((l.drop a).take (b - a)) := B_inj (by rw [B_extract, B_mkB, B_mkB])
theorem bt_B (s : ByteArray) (i : Nat) (h : i < (B s).length) : bt s (i : Int) = (((B s)[i]).toNat : Int) := by
  have hs : i < s.size := by rw [← B_length]; exact h
  have e := bt_at s (i : Int) (by simpa using hs)
  rw [← e]; simp [B, ByteArray.getElem_eq_getElem_data]

/-! ### folding -/
def foldB (c : UInt8) : UInt8 := if 65 ≤ c.toNat ∧ c.toNat ≤ 90 then c + 32 else c
theorem foldS_B (s : ByteArray) : B (foldS s) = (B s).map foldB := by
  unfold foldS
  show (strOfNums ((bytesOf s).map foldI)).data.toList = _
  rw [strOfNums_data, bytesOf, List.map_map, List.map_map]
  apply List.map_congr_left
  intro x _
  have := x.toNat_lt
  apply UInt8.toNat_inj.1
  simp only [Function.comp, foldI, foldB]
  by_cases h : 65 ≤ x.toNat ∧ x.toNat ≤ 90
  · rw [if_pos (by omega), if_pos h]
    simp [UInt8.toNat_add]
    omega
  · rw [if_neg (by omega), if_neg h]
    simp
def Low (l : List UInt8) : Prop := ∀ c ∈ l, ¬ (65 ≤ c.toNat ∧ c.toNat ≤ 90)
theorem foldB_low (c : UInt8) : ¬ (65 ≤ (foldB c).toNat ∧ (foldB c).toNat ≤ 90) := by
  unfold foldB
  by_cases h : 65 ≤ c.toNat ∧ c.toNat ≤ 90
  · rw [if_pos h]; simp [UInt8.toNat_add]; omega
  · rw [if_neg h]; exact h
theorem fold_low_list (l : List UInt8) : Low (l.map foldB) := by
  intro c hc
  obtain ⟨x, _, rfl⟩ := List.mem_map.1 hc
  exact foldB_low x
theorem low_map {l : List UInt8} : l.map foldB = l ↔ Low l := by
  constructor
  · intro h; rw [← h]; exact fold_low_list l
  · intro h
    have : ∀ c ∈ l, foldB c = id c := fun c hc => by unfold foldB; rw [if_neg (h c hc)]; rfl
    rw [List.map_congr_left this, List.map_id]
theorem foldS_eq (s : ByteArray) : foldS s = s ↔ Low (B s) := by
  rw [← low_map, ← foldS_B]; exact ⟨fun h => by rw [h], B_inj⟩
theorem low_append {a b : List UInt8} : Low (a ++ b) ↔ Low a ∧ Low b := by
  unfold Low; simp only [List.mem_append]
  exact ⟨fun h => ⟨fun c hc => h c (.inl hc), fun c hc => h c (.inr hc)⟩, fun h c hc => hc.elim (h.1 c) (h.2 c)⟩

/-! ### labels -/
abbrev Lb := List (List UInt8)
def encL (l : List UInt8) : List UInt8 := UInt8.ofNat l.length :: l
def enc (ls : Lb) : List UInt8 := ls.flatMap encL
def Ok (l : List UInt8) : Prop := 1 ≤ l.length ∧ l.length ≤ 63
theorem enc_cons (l : List UInt8) (ls : Lb) : enc (l :: ls) = encL l ++ enc ls := by simp [enc]
theorem enc_append (a b : Lb) : enc (a ++ b) = enc a ++ enc b := by simp [enc]
theorem encL_length (l : List UInt8) : (encL l).length = l.length + 1 := by simp [encL]
theorem enc_length_le (ls : Lb) : ls.length ≤ (enc ls).length := by
  induction ls with
  | nil => simp
  | cons l ls ih => rw [enc_cons, List.length_append, encL_length, List.length_cons]; omega
/-- The labels of a text; none, if it has none. -/
def dec (s : List UInt8) : Option Lb :=
  match s with
  | [] => some []
  | c :: t => if 1 ≤ c.toNat ∧ c.toNat ≤ 63 ∧ c.toNat ≤ t.length then (dec (t.drop c.toNat)).map (t.take c.toNat :: ·) else none
termination_by s.length
decreasing_by simp; omega
theorem dec_nil : dec [] = some [] := by rw [dec]
theorem dec_cons (c : UInt8) (t : List UInt8) : dec (c :: t) = if 1 ≤ c.toNat ∧ c.toNat ≤ 63 ∧ c.toNat ≤ t.length then (dec (t.drop c.toNat)).map (t.take c.toNat :: ·) else none := by rw [dec]
theorem dec_enc (ls : Lb) (h : ∀ l ∈ ls, Ok l) : dec (enc ls) = some ls := by
  induction ls with
  | nil => rw [show enc [] = [] from rfl, dec_nil]
  | cons l ls ih =>
    have ⟨h1, h2⟩ := h l (by simp)
    rw [enc_cons, encL, List.cons_append, dec_cons]
    have e : (UInt8.ofNat l.length).toNat = l.length := by simp; omega
    rw [e, if_pos ⟨h1, h2, by simp⟩, List.drop_left, ih (fun x hx => h x (by simp [hx])), List.take_left]
    rfl
theorem enc_of_dec (n : Nat) : ∀ (s : List UInt8) (ls : Lb), s.length ≤ n → dec s = some ls → enc ls = s ∧ ∀ l ∈ ls, Ok l := by
  induction n with
  | zero =>
    intro s ls hn h
    obtain rfl : s = [] := List.eq_nil_of_length_eq_zero (by omega)
    rw [dec_nil] at h
    obtain rfl := Option.some.inj h
    exact ⟨rfl, by simp⟩
  | succ n ih =>
    intro s ls hn h
    cases s with
    | nil =>
      rw [dec_nil] at h
      obtain rfl := Option.some.inj h
      exact ⟨rfl, by simp⟩
    | cons c t =>
      rw [dec_cons] at h
      by_cases k : 1 ≤ c.toNat ∧ c.toNat ≤ 63 ∧ c.toNat ≤ t.length
      · rw [if_pos k] at h
        obtain ⟨ms, h1, rfl⟩ := Option.map_eq_some_iff.1 h
        have ⟨e, o⟩ := ih _ ms (by simp at hn ⊢; omega) h1
        have hl : (t.take c.toNat).length = c.toNat := by rw [List.length_take]; omega
        refine ⟨?_, ?_⟩
        · rw [enc_cons, e, encL, hl]
          simp
        · intro l hl2
          rcases List.mem_cons.1 hl2 with rfl | hl2
          · unfold Ok; rw [hl]; omega
          · exact o l hl2
      · rw [if_neg k] at h; cases h
/-- The labels of a name: small letters, and no more than 254 bytes. -/
def Nm (s : ByteArray) (ls : Lb) : Prop := B s = enc ls ∧ (∀ l ∈ ls, Ok l) ∧ Low (B s) ∧ s.size ≤ 254
theorem Nm.code {s : ByteArray} {ls : Lb} (h : Nm s ls) : dec (B s) = some ls := by rw [h.1]; exact dec_enc ls h.2.1
theorem Nm.uniq {s : ByteArray} {ls ms : Lb} (h : Nm s ls) (k : Nm s ms) : ls = ms := by
  have := h.code.symm.trans k.code; exact Option.some.inj this
theorem Nm.inj {s t : ByteArray} {ls : Lb} (h : Nm s ls) (k : Nm t ls) : s = t := B_inj (by rw [h.1, k.1])
theorem Nm.eq_iff {s t : ByteArray} {ls ms : Lb} (h : Nm s ls) (k : Nm t ms) : s = t ↔ ls = ms :=
  ⟨fun e => by subst e; exact h.uniq k, fun e => by subst e; exact h.inj k⟩
theorem Nm.of_dec {s : ByteArray} {ls : Lb} (h : dec (B s) = some ls) (hl : Low (B s)) (hs : s.size ≤ 254) : Nm s ls :=
  have ⟨e, o⟩ := enc_of_dec _ _ ls (Nat.le_refl _) h
  ⟨e.symm, o, hl, hs⟩
theorem Nm.nil : Nm (⟨#[]⟩ : ByteArray) [] := ⟨rfl, by simp, by intro c hc; simp [B] at hc, by decide⟩
theorem Nm.length {s : ByteArray} {ls : Lb} (h : Nm s ls) : (enc ls).length = s.size := by rw [← h.1, B_length]
theorem Nm.tail {s : ByteArray} {l : List UInt8} {ls : Lb} (h : Nm s (l :: ls)) : Nm (mkB (enc ls)) ls := by
  obtain ⟨h1, h2, h3, h4⟩ := h
  rw [enc_cons] at h1
  rw [h1] at h3
  have hlen : (encL l ++ enc ls).length ≤ 254 := by rw [← h1, B_length]; exact h4
  exact ⟨rfl, fun x hx => h2 x (by simp [hx]), (low_append.1 h3).2, by rw [mkB_size]; simp at hlen; omega⟩
theorem Nm.suffix {s : ByteArray} {a b : Lb} (h : Nm s (a ++ b)) : Nm (mkB (enc b)) b := by
  obtain ⟨h1, h2, h3, h4⟩ := h
  rw [enc_append] at h1
  rw [h1] at h3
  have hlen : (enc a ++ enc b).length ≤ 254 := by rw [← h1, B_length]; exact h4
  exact ⟨rfl, fun x hx => h2 x (by simp [hx]), (low_append.1 h3).2, by rw [mkB_size]; simp at hlen; omega⟩
theorem Nm.front {s : ByteArray} {a b : Lb} (h : Nm s (a ++ b)) : Nm (mkB (enc a)) a := by
  obtain ⟨h1, h2, h3, h4⟩ := h
  rw [enc_append] at h1
  rw [h1] at h3
  have hlen : (enc a ++ enc b).length ≤ 254 := by rw [← h1, B_length]; exact h4
  exact ⟨rfl, fun x hx => h2 x (by simp [hx]), (low_append.1 h3).1, by rw [mkB_size]; simp at hlen; omega⟩

/-! ### Labels -/
theorem labels_loop (n : Nat) : ∀ (k : Nat) (s : ByteArray) (acc : List ByteArray), s.size ≤ n → n + acc.length ≤ 1000 → n < k →
    name_Labels.l0 k acc s = some (match dec (B s) with | some ls => (acc ++ ls.map mkB, true) | none => ([], false)) := by
  induction n with
  | zero =>
    intro k s acc hs ha hk
    obtain ⟨k, rfl⟩ : ∃ m, k = m + 1 := ⟨k - 1, by omega⟩
    have e : B s = [] := List.eq_nil_of_length_eq_zero (by rw [B_length]; omega)
    simp only [name_Labels.l0]
    rw [if_neg (by omega), e, dec_nil]; simp
  | succ n ih =>
    intro k s acc hs ha hk
    obtain ⟨k, rfl⟩ : ∃ m, k = m + 1 := ⟨k - 1, by omega⟩
    simp only [name_Labels.l0]
    cases hB : B s with
    | nil =>
      have hz : s.size = 0 := by rw [← B_length, hB]; rfl
      rw [if_neg (by omega), dec_nil]; simp
    | cons c t =>
      have hz : s.size = t.length + 1 := by rw [← B_length, hB]; rfl
      have hb : bt s 0 = (c.toNat : Int) := by
        have := bt_B s 0 (by rw [hB]; simp)
        simp only [hB, List.getElem_cons_zero] at this
        exact this
      have hc := c.toNat_lt
      rw [if_pos (by omega), if_pos (by omega), hb, w64 (n := (c.toNat : Int)) (by omega) (by omega), w64 (n := 1 + (c.toNat : Int)) (by omega) (by omega), dec_cons]
      by_cases k1 : c.toNat < 1
      · rw [if_pos (by omega), if_neg (by omega)]
      · by_cases k2 : 63 < c.toNat
        · rw [if_neg (by omega), if_pos (by omega), if_neg (by omega)]
        · by_cases k3 : t.length + 1 ≤ c.toNat
          · rw [if_neg (by omega), if_neg (by omega), if_pos (by omega), if_neg (by omega)]
          · rw [if_neg (by omega), if_neg (by omega), if_neg (by omega), if_pos (by omega), if_pos (by omega), if_pos (by omega), if_pos (by omega), if_pos (by omega)]
            have e1 : (1 + (c.toNat : Int)).toNat = c.toNat + 1 := by omega
            rw [e1]
            have x1 : s.extract 1 (c.toNat + 1) = mkB (t.take c.toNat) := B_inj (by rw [B_extract, hB, B_mkB]; simp)
            have x2 : s.extract (c.toNat + 1) s.size = mkB (t.drop c.toNat) := B_inj (by
              rw [B_extract, hB, B_mkB, List.drop_succ_cons, List.take_of_length_le (by rw [List.length_drop]; omega)])
            rw [x1, x2, ih k _ _ (by rw [mkB_size, List.length_drop]; omega) (by rw [List.length_append]; simp; omega) (by omega), B_mkB]
            cases hd : dec (t.drop c.toNat) with
            | none => rfl
            | some ls => simp
theorem folded_some (s : ByteArray) (h : s.size ≤ 254) : name_folded.f s = some (foldS s) := by unfold name_folded.f; rw [if_pos (by omega)]
theorem labels_yes {s : ByteArray} {ls : Lb} (h : Nm s ls) : Ev (fun k => name_Labels.f k s) (ls.map mkB, true) := by
  obtain ⟨h1, h2, h3, h4⟩ := id h
  refine Ev.of (k := 300) (fun k => name_Labels.mono s k) ?_
  unfold name_Labels.f
  have e : (s.toList != (foldS s).toList) = false := by rw [(foldS_eq s).2 h3]; simp
  rw [if_neg (by omega), folded_some s h4, Option.bind_some, e]
  simp only [name_Labels.j0]
  rw [if_neg (by decide), labels_loop s.size _ s [] (Nat.le_refl _) (by simp; omega) (by omega), h.code]
  rfl
theorem labels_no {s : ByteArray} (h : ∀ ls, ¬ Nm s ls) : Ev (fun k => name_Labels.f k s) ([], false) := by
  refine Ev.of (k := 300) (fun k => name_Labels.mono s k) ?_
  unfold name_Labels.f
  by_cases h4 : s.size ≤ 254
  · rw [if_neg (by omega), folded_some s h4, Option.bind_some]
    by_cases h3 : Low (B s)
    · have e : (s.toList != (foldS s).toList) = false := by rw [(foldS_eq s).2 h3]; simp
      rw [e]
      simp only [name_Labels.j0]
      rw [if_neg (by decide), labels_loop s.size _ s [] (Nat.le_refl _) (by simp; omega) (by omega)]
      cases hd : dec (B s) with
      | none => rfl
      | some ls => exact absurd (Nm.of_dec hd h3 h4) (h ls)
    · have e : (s.toList != (foldS s).toList) = true := by
        rw [bne_iff_ne]
        intro he
        exact h3 ((foldS_eq s).1 ((toList_iff _ _).1 he).symm)
      rw [e]
      simp only [name_Labels.j0]
      rfl
  · rw [if_pos (by omega)]
    simp only [name_Labels.j0]
    rfl
theorem may_yes {s : ByteArray} {ls : Lb} (h : Nm s ls) : Ev (fun k => name_May.f k s) true := by
  obtain ⟨K, hK⟩ := labels_yes h
  exact ⟨K, fun k hk => by
    have h := hK k hk
    dsimp only at h
    show name_May.f k s = _
    unfold name_May.f; rw [h]; rfl⟩
theorem may_no {s : ByteArray} (h : ∀ ls, ¬ Nm s ls) : Ev (fun k => name_May.f k s) false := by
  obtain ⟨K, hK⟩ := labels_no h
  exact ⟨K, fun k hk => by
    have h := hK k hk
    dsimp only at h
    show name_May.f k s = _
    unfold name_May.f; rw [h]; rfl⟩

/-! ### Make -/
def foldL (l : ByteArray) : List UInt8 := (B l).map foldB
theorem lab_eq (l : ByteArray) : lab l = encL (foldL l) := by
  have e : (foldS l).data.toList = foldL l := foldS_B l
  unfold lab encL
  rw [e]
  unfold foldL
  rw [List.length_map, B_length]
theorem makeGo_eq : ∀ (ls : List ByteArray) (acc : List UInt8), acc.length ≤ 254 →
    ((∀ l ∈ ls, Ok (B l)) ∧ acc.length + (enc (ls.map foldL)).length ≤ 254 → makeGo ls acc = (mkB (acc ++ enc (ls.map foldL)), true)) ∧
    (¬ ((∀ l ∈ ls, Ok (B l)) ∧ acc.length + (enc (ls.map foldL)).length ≤ 254) → makeGo ls acc = ((⟨#[]⟩ : ByteArray), false))
  | [], acc, ha => ⟨fun _ => by simp [makeGo, mkB, enc], fun h => absurd ⟨by simp, by simpa [enc] using ha⟩ h⟩
  | l :: ls, acc, ha => by
    have hl : (foldL l).length = l.size := by unfold foldL; rw [List.length_map, B_length]
    have e1 : (enc ((l :: ls).map foldL)).length = l.size + 1 + (enc (ls.map foldL)).length := by
      rw [List.map_cons, enc_cons, List.length_append, encL_length, hl]
    rw [makeGo]
    by_cases c : l.size < 1 ∨ 63 < l.size ∨ 254 < acc.length + 1 + l.size
    · rw [if_pos c]
      refine ⟨fun h => ?_, fun _ => rfl⟩
      have ⟨o1, o2⟩ := h.1 l (by simp)
      have h2 := h.2
      rw [e1] at h2
      rw [B_length] at o1 o2
      omega
    · rw [if_neg c]
      have ih := makeGo_eq ls (acc ++ lab l) (by rw [List.length_append, lab_length]; omega)
      rw [List.length_append, lab_length] at ih
      refine ⟨fun h => ?_, fun h => ih.2 fun k => h ⟨fun x hx => ?_, by rw [e1]; omega⟩⟩
      · have h2 := h.2
        rw [e1] at h2
        rw [ih.1 ⟨fun x hx => h.1 x (by simp [hx]), by omega⟩, List.map_cons, enc_cons, lab_eq, List.append_assoc]
      · rcases List.mem_cons.1 hx with rfl | hx
        · unfold Ok; rw [B_length]; omega
        · exact k.1 x hx
theorem foldL_ok {l : ByteArray} (h : Ok (B l)) : Ok (foldL l) := by unfold foldL Ok; rw [List.length_map]; exact h
theorem enc_low {ls : Lb} (h : ∀ l ∈ ls, Ok l ∧ Low l) : Low (enc ls) := by
  induction ls with
  | nil => intro c hc; simp [enc] at hc
  | cons l ls ih =>
    rw [enc_cons, low_append]
    refine ⟨?_, ih fun x hx => h x (by simp [hx])⟩
    have ⟨⟨o1, o2⟩, o3⟩ := h l (by simp)
    intro c hc
    rcases List.mem_cons.1 hc with rfl | hc
    · simp; omega
    · exact o3 c hc
theorem make_nm {ls : List ByteArray} (h : ∀ l ∈ ls, Ok (B l)) (hs : (enc (ls.map foldL)).length ≤ 254) :
    name_Make.f ls = some (mkB (enc (ls.map foldL)), true) ∧ Nm (mkB (enc (ls.map foldL))) (ls.map foldL) := by
  have hl := enc_length_le (ls.map foldL)
  rw [List.length_map] at hl
  refine ⟨?_, ?_⟩
  · unfold name_Make.f
    rw [if_pos (by omega), (makeGo_eq ls [] (by simp)).1 ⟨h, by simpa using hs⟩]
    rfl
  · have ho : ∀ l ∈ ls.map foldL, Ok l ∧ Low l := by
      intro x hx
      obtain ⟨l, hl, rfl⟩ := List.mem_map.1 hx
      exact ⟨foldL_ok (h l hl), fold_low_list _⟩
    exact ⟨rfl, fun l hl => (ho l hl).1, by rw [B_mkB]; exact enc_low ho, by rw [mkB_size]; exact hs⟩
theorem make_none {ls : List ByteArray} (hlen : ls.length ≤ 140737488351232) (h : ¬ ((∀ l ∈ ls, Ok (B l)) ∧ (enc (ls.map foldL)).length ≤ 254)) : name_Make.f ls = some ((⟨#[]⟩ : ByteArray), false) := by
  unfold name_Make.f
  rw [if_pos hlen, (makeGo_eq ls [] (by simp)).2 (by simpa using h)]
theorem foldL_low {l : ByteArray} (h : Low (B l)) : foldL l = B l := low_map.2 h

/-! ### Parent -/
/-! ### Below -/
/-! ### Strip, Join -/
theorem Nm.join {a b : ByteArray} {ls ms : Lb} (ha : Nm a ls) (hb : Nm b ms) (hs : a.size + b.size ≤ 254) : Nm (a ++ b) (ls ++ ms) := by
  refine ⟨by rw [B_append, ha.1, hb.1, enc_append], fun l hl => ?_, by rw [B_append, low_append]; exact ⟨ha.2.2.1, hb.2.2.1⟩, by rw [ByteArray.size_append]; exact hs⟩
  rcases List.mem_append.1 hl with h | h
  · exact ha.2.1 l h
  · exact hb.2.1 l h
theorem join_yes {a b : ByteArray} {ls ms : Lb} (ha : Nm a ls) (hb : Nm b ms) (hs : a.size + b.size ≤ 254) : Ev (fun k => name_Join.f k a b) (a ++ b, true) := by
  obtain ⟨K1, h1⟩ := may_yes ha
  obtain ⟨K2, h2⟩ := may_yes hb
  dsimp only at h1 h2
  refine ⟨K1 + K2, fun k hk => ?_⟩
  show name_Join.f k a b = _
  unfold name_Join.f
  rw [h1 _ (by omega), Option.bind_some, if_pos rfl, h2 _ (by omega), Option.bind_some, if_pos rfl, w64 (n := (a.size : Int) + (b.size : Int)) (by omega) (by omega), if_neg (by omega), if_pos (by omega)]
theorem join_long {a b : ByteArray} {ls ms : Lb} (ha : Nm a ls) (hb : Nm b ms) (hs : 254 < a.size + b.size) : Ev (fun k => name_Join.f k a b) ((⟨#[]⟩ : ByteArray), false) := by
  obtain ⟨K1, h1⟩ := may_yes ha
  obtain ⟨K2, h2⟩ := may_yes hb
  dsimp only at h1 h2
  have h3 := ha.2.2.2
  have h4 := hb.2.2.2
  refine ⟨K1 + K2, fun k hk => ?_⟩
  show name_Join.f k a b = _
  unfold name_Join.f
  rw [h1 _ (by omega), Option.bind_some, if_pos rfl, h2 _ (by omega), Option.bind_some, if_pos rfl, w64 (n := (a.size : Int) + (b.size : Int)) (by omega) (by omega), if_pos (by omega)]
theorem join_no {a b : ByteArray} (h : (∀ ls, ¬ Nm a ls) ∨ (∀ ls, ¬ Nm b ls)) : Ev (fun k => name_Join.f k a b) ((⟨#[]⟩ : ByteArray), false) := by
  by_cases ca : ∃ ls, Nm a ls
  · obtain ⟨ls, ha⟩ := ca
    have hb : ∀ ls, ¬ Nm b ls := h.resolve_left (fun k => k ls ha)
    obtain ⟨K1, h1⟩ := may_yes ha
    obtain ⟨K2, h2⟩ := may_no hb
    dsimp only at h1 h2
    refine ⟨K1 + K2, fun k hk => ?_⟩
    show name_Join.f k a b = _
    unfold name_Join.f
    rw [h1 _ (by omega), Option.bind_some, if_pos rfl, h2 _ (by omega), Option.bind_some, if_neg (by decide)]
  · obtain ⟨K1, h1⟩ := may_no (fun ls k => ca ⟨ls, k⟩ : ∀ ls, ¬ Nm a ls)
    dsimp only at h1
    refine ⟨K1, fun k hk => ?_⟩
    show name_Join.f k a b = _
    unfold name_Join.f
    rw [h1 _ (by omega), Option.bind_some, if_neg (by decide)]

def theWords : List ByteArray := [(⟨#[97]⟩ : ByteArray), (⟨#[98]⟩ : ByteArray), (⟨#[99]⟩ : ByteArray), (⟨#[119, 119, 119]⟩ : ByteArray), (⟨#[101, 120]⟩ : ByteArray), (⟨#[111, 114, 103]⟩ : ByteArray), (⟨#[42]⟩ : ByteArray), (⟨#[114, 112, 122, 45, 105, 112]⟩ : ByteArray)]
def wordAt (n : Int) : ByteArray := rdOf ByteArray.empty theWords (Int.tmod n 8)
def wordsOf (ns : List Int) : List ByteArray := (ns.take 12).map wordAt
theorem words_ok : ∀ w ∈ theWords, (1 ≤ (B w).length ∧ (B w).length ≤ 6) ∧ (B w).map foldB = B w := by decide +kernel
theorem wordAt_mem (n : Int) (h0 : 0 ≤ n) : wordAt n ∈ theWords := by
  have h1 : 0 ≤ Int.tmod n 8 := Int.tmod_nonneg _ h0
  have h2 : Int.tmod n 8 < 8 := Int.tmod_lt_of_pos _ (by decide)
  have hl : (Int.tmod n 8).toNat < theWords.length := by show _ < 8; omega
  unfold wordAt rdOf
  rw [List.getD_eq_getElem?_getD, List.getElem?_eq_getElem hl, Option.getD_some]
  exact List.getElem_mem hl
theorem words_loop (ns : List Int) (hl : ns.length * 1 ≤ 140737488351232) (hx : ∀ x ∈ ns, (Lit.int .u8 x).wf = true) (d : Nat) :
    ∀ (k i : Nat), i + d = 12 → d + 1 < k → i ≤ ns.length → bolterlaw02_Words.l0 k ((ns.take i).map wordAt) ns (ns.length : Int) i = some (wordsOf ns) := by
  induction d with
  | zero =>
    intro k i hd hk hi
    obtain ⟨k, rfl⟩ : ∃ m, k = m + 1 := ⟨k - 1, by omega⟩
    obtain rfl : i = 12 := by omega
    simp only [bolterlaw02_Words.l0]
    by_cases h : ((12 : Nat) : Int) < (ns.length : Int)
    · rw [if_pos h, if_pos (by omega), if_pos h, if_pos (by rfl)]; rfl
    · rw [if_neg h]; rfl
  | succ d ih =>
    intro k i hd hk hi
    obtain ⟨k, rfl⟩ : ∃ m, k = m + 1 := ⟨k - 1, by omega⟩
    simp only [bolterlaw02_Words.l0]
    by_cases h : i < ns.length
    · have ⟨n0, n1⟩ := u8b (hx _ (List.getElem_mem h))
      have hr : rd ns (i : Int) = ns[i] := by simp [rd, List.getD_eq_getElem?_getD, h]
      have h1 : 0 ≤ Int.tmod ns[i] 8 := Int.tmod_nonneg _ n0
      have h2 : Int.tmod ns[i] 8 < 8 := Int.tmod_lt_of_pos _ (by decide)
      rw [if_pos (by omega), if_pos (by omega), if_pos (by omega), if_neg (by omega), Option.bind_some, hr, if_pos h1, if_pos (by simpa using h2), if_pos (by rw [List.length_map, List.length_take]; omega), w64 (n := (i : Int) + 1) (by omega) (by omega)]
      have step := ih k (i + 1) (by omega) (by omega) (by omega)
      rw [List.take_succ_eq_append_getElem h, List.map_append] at step
      exact step
    · rw [if_neg (by omega)]
      congr 1
      unfold wordsOf
      rw [List.take_of_length_le (by omega), List.take_of_length_le (by omega)]
theorem words_ev (ns : List Int) (hl : ns.length * 1 ≤ 140737488351232) (hx : ∀ x ∈ ns, (Lit.int .u8 x).wf = true) : Ev (fun k => bolterlaw02_Words.f k ns) (wordsOf ns) := by
  refine Ev.of (k := 20) (fun k => bolterlaw02_Words.mono ns k) ?_
  exact words_loop ns hl hx 12 20 0 rfl (by omega) (by omega)
theorem wordsOf_mem {ns : List Int} (hx : ∀ x ∈ ns, (Lit.int .u8 x).wf = true) {w : ByteArray} (h : w ∈ wordsOf ns) : w ∈ theWords := by
  obtain ⟨n, hn, rfl⟩ := List.mem_map.1 h
  exact wordAt_mem n (u8b (hx n (List.mem_of_mem_take hn))).1
def lbs (ns : List Int) : Lb := (wordsOf ns).map B
theorem wordsOf_length (ns : List Int) : (wordsOf ns).length ≤ 12 := by unfold wordsOf; rw [List.length_map, List.length_take]; omega
theorem fold_words {ws : List ByteArray} (h : ∀ w ∈ ws, w ∈ theWords) : ws.map foldL = ws.map B := by
  apply List.map_congr_left
  intro w hw
  exact (words_ok w (h w hw)).2
theorem enc_words : ∀ {ws : List ByteArray}, (∀ w ∈ ws, w ∈ theWords) → (enc (ws.map B)).length ≤ 7 * ws.length
  | [], _ => by simp [enc]
  | w :: ws, h => by
    have := enc_words (ws := ws) (fun x hx => h x (by simp [hx]))
    have h1 := (words_ok w (h w (by simp))).1
    rw [List.map_cons, enc_cons, List.length_append, encL_length, List.length_cons]
    omega
theorem make_words {ws : List ByteArray} (h : ∀ w ∈ ws, w ∈ theWords) (hl : ws.length ≤ 12) :
    name_Make.f ws = some (mkB (enc (ws.map B)), true) ∧ Nm (mkB (enc (ws.map B))) (ws.map B) := by
  have e := fold_words h
  have hlen := enc_words h
  have := make_nm (ls := ws) (fun w hw => by have := (words_ok w (h w hw)).1; unfold Ok; omega) (by rw [e]; omega)
  rw [e] at this
  exact this
theorem name_ev (ns : List Int) (hl : ns.length * 1 ≤ 140737488351232) (hx : ∀ x ∈ ns, (Lit.int .u8 x).wf = true) :
    Ev (fun k => bolterlaw02_Name.f k ns) (mkB (enc (lbs ns))) ∧ Nm (mkB (enc (lbs ns))) (lbs ns) := by
  have ⟨m1, m2⟩ := make_words (ws := wordsOf ns) (fun w hw => wordsOf_mem hx hw) (wordsOf_length ns)
  refine ⟨?_, m2⟩
  obtain ⟨K, hK⟩ := words_ev ns hl hx
  dsimp only at hK
  refine ⟨K, fun k hk => ?_⟩
  show bolterlaw02_Name.f k ns = _
  unfold bolterlaw02_Name.f
  rw [hK k hk, Option.bind_some, m1, Option.bind_some]
  rfl

instance (l : List UInt8) : Decidable (Low l) := by unfold Low; infer_instance
theorem nm_or (s : ByteArray) : (∃ ls, Nm s ls) ∨ ∀ ls, ¬ Nm s ls := by
  by_cases h : ∃ ls, Nm s ls
  · exact .inl h
  · exact .inr fun ls k => h ⟨ls, k⟩
end Go.Proofs.Ytdkjlbbbdjkhbaa.NamL
