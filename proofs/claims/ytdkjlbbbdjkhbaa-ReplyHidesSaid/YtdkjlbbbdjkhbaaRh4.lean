/- Part 4 of 4 of a proof, several texts one behind the other (NamA, TgtA, ActB, PureReply, OpenK, OpenM, OpenA, LawReplyHides): written by programs of these sessions and by hand. -/
import Derived.Test.YtdkjlbbbdjkhbaaRh3
import Derived.Test.YtdkjlbbbdjkhbaaRows
set_option linter.unusedVariables false
set_option linter.unusedSimpArgs false
/- What the functions of package name compute, in plain words; the words and names that the statements are about. -/
namespace Go.Proofs.Ytdkjlbbbdjkhbaa.NamL
open Go.RowKit Go.Proofs.Ytdkjlbbbdjkhbaa.PAll Go.Proofs.Ytdkjlbbbdjkhbaa.Hand Go.Proofs.YtdkjlbbbdjkhbaaW.PrintWords Go.Proofs.YtdkjlbbbdjkhbaaW.PrintLast


theorem u8b {n : Int} (h : (Lit.int .u8 n).wf = true) : 0 ≤ n ∧ n ≤ 255 := by
  simp [Lit.wf, IntKind.min, IntKind.max, IntKind.signed, IntKind.bits] at h; omega
theorem w64 {n : Int} (h0 : 0 ≤ n) (h1 : n ≤ 4611686018427387904) : wrap64 n = n := by unfold wrap64; omega

/-! ### texts as lists of bytes -/
def B (s : ByteArray) : List UInt8 := s.data.toList
def mkB (l : List UInt8) : ByteArray := ⟨l.toArray⟩
theorem B_mkB (l : List UInt8) : B (mkB l) = l := rfl
theorem mkB_B (s : ByteArray) : mkB (B s) = s := by cases s; rfl
theorem B_length (s : ByteArray) : (B s).length = s.size := by unfold B; rw [Array.length_toList]; rfl
theorem mkB_size (l : List UInt8) : (mkB l).size = l.length := by rw [← B_length, B_mkB]
theorem B_inj {s t : ByteArray} (h : B s = B t) : s = t := by rw [← mkB_B s, ← mkB_B t, h]
theorem toList_B (s : ByteArray) : s.toList = B s := Lib.toList_data s
theorem toList_iff (s t : ByteArray) : s.toList = t.toList ↔ s = t := by
  rw [toList_B, toList_B]; exact ⟨B_inj, fun h => by rw [h]⟩
theorem toList_beq (s t : ByteArray) : (s.toList == t.toList) = decide (s = t) := by
  rw [Bool.eq_iff_iff, beq_iff_eq, decide_eq_true_eq, toList_iff]
theorem B_append (s t : ByteArray) : B (s ++ t) = B s ++ B t := by unfold B; rw [ByteArray.data_append]; simp
theorem B_extract (s : ByteArray) (a b : Nat) : B (s.extract a b) = (B s |>.drop a).take (b - a) := by
  rw [Lib.extract_eq]; rfl
theorem extract_mk (l : List UInt8) (a b : Nat) : (mkB l).extract a b = mkB ((l.drop a).take (b - a)) := B_inj (by rw [B_extract, B_mkB, B_mkB])
theorem bt_B (s : ByteArray) (i : Nat) (h : i < (B s).length) : bt s (i : Int) = (((B s)[i]).toNat : Int) := by
  have hs : i < s.size := by rw [← B_length]; exact h
  have e := bt_at s (i : Int) (by simpa using hs)
  rw [← e]; simp [B, ByteArray.getElem_eq_getElem_data]

/-! ### folding -/
def foldB (c : UInt8) : UInt8 := if 65 ≤ c.toNat ∧ c.toNat ≤ 90 then c + 32 else c
theorem foldS_B (s : ByteArray) : B (foldS s) = (B s).map foldB := by
  unfold foldS
  show (strOfNums ((bytesOf s).map foldI)).data.toList = _
  rw [strOfNums_data, bytesOf, List.map_map, List.map_map]
  apply List.map_congr_left
  intro x _
  have := x.toNat_lt
  apply UInt8.toNat_inj.1
  simp only [Function.comp, foldI, foldB]
  by_cases h : 65 ≤ x.toNat ∧ x.toNat ≤ 90
  · rw [if_pos (by omega), if_pos h]
    simp [UInt8.toNat_add]
    omega
  · rw [if_neg (by omega), if_neg h]
    simp
def Low (l : List UInt8) : Prop := ∀ c ∈ l, ¬ (65 ≤ c.toNat ∧ c.toNat ≤ 90)
theorem foldB_low (c : UInt8) : ¬ (65 ≤ (foldB c).toNat ∧ (foldB c).toNat ≤ 90) := by
  unfold foldB
  by_cases h : 65 ≤ c.toNat ∧ c.toNat ≤ 90
  · rw [if_pos h]; simp [UInt8.toNat_add]; omega
  · rw [if_neg h]; exact h
theorem fold_low_list (l : List UInt8) : Low (l.map foldB) := by
  intro c hc
  obtain ⟨x, _, rfl⟩ := List.mem_map.1 hc
  exact foldB_low x
theorem low_map {l : List UInt8} : l.map foldB = l ↔ Low l := by
  constructor
  · intro h; rw [← h]; exact fold_low_list l
  · intro h
    have : ∀ c ∈ l, foldB c = id c := fun c hc => by unfold foldB; rw [if_neg (h c hc)]; rfl
    rw [List.map_congr_left this, List.map_id]
theorem foldS_eq (s : ByteArray) : foldS s = s ↔ Low (B s) := by
  rw [← low_map, ← foldS_B]; exact ⟨fun h => by rw [h], B_inj⟩
theorem low_append {a b : List UInt8} : Low (a ++ b) ↔ Low a ∧ Low b := by
  unfold Low; simp only [List.mem_append]
  exact ⟨fun h => ⟨fun c hc => h c (.inl hc), fun c hc => h c (.inr hc)⟩, fun h c hc => hc.elim (h.1 c) (h.2 c)⟩

/-! ### labels -/
abbrev Lb := List (List UInt8)
def encL (l : List UInt8) : List UInt8 := UInt8.ofNat l.length :: l
def enc (ls : Lb) : List UInt8 := ls.flatMap encL
def Ok (l : List UInt8) : Prop := 1 ≤ l.length ∧ l.length ≤ 63
theorem enc_cons (l : List UInt8) (ls : Lb) : enc (l :: ls) = encL l ++ enc ls := by simp [enc]
theorem enc_append (a b : Lb) : enc (a ++ b) = enc a ++ enc b := by simp [enc]
theorem encL_length (l : List UInt8) : (encL l).length = l.length + 1 := by simp [encL]
theorem enc_length_le (ls : Lb) : ls.length ≤ (enc ls).length := by
  induction ls with
  | nil => simp
  | cons l ls ih => rw [enc_cons, List.length_append, encL_length, List.length_cons]; omega
/-- The labels of a text; none, if it has none. -/
def dec (s : List UInt8) : Option Lb :=
  match s with
  | [] => some []
  | c :: t => if 1 ≤ c.toNat ∧ c.toNat ≤ 63 ∧ c.toNat ≤ t.length then (dec (t.drop c.toNat)).map (t.take c.toNat :: ·) else none
termination_by s.length
decreasing_by simp; omega
theorem dec_nil : dec [] = some [] := by rw [dec]
theorem dec_cons (c : UInt8) (t : List UInt8) : dec (c :: t) = if 1 ≤ c.toNat ∧ c.toNat ≤ 63 ∧ c.toNat ≤ t.length then (dec (t.drop c.toNat)).map (t.take c.toNat :: ·) else none := by rw [dec]
theorem dec_enc (ls : Lb) (h : ∀ l ∈ ls, Ok l) : dec (enc ls) = some ls := by
  induction ls with
  | nil => rw [show enc [] = [] from rfl, dec_nil]
  | cons l ls ih =>
    have ⟨h1, h2⟩ := h l (by simp)
    rw [enc_cons, encL, List.cons_append, dec_cons]
    have e : (UInt8.ofNat l.length).toNat = l.length := by simp; omega
    rw [e, if_pos ⟨h1, h2, by simp⟩, List.drop_left, ih (fun x hx => h x (by simp [hx])), List.take_left]
    rfl
theorem enc_of_dec (n : Nat) : ∀ (s : List UInt8) (ls : Lb), s.length ≤ n → dec s = some ls → enc ls = s ∧ ∀ l ∈ ls, Ok l := by
  induction n with
  | zero =>
    intro s ls hn h
    obtain rfl : s = [] := List.eq_nil_of_length_eq_zero (by omega)
    rw [dec_nil] at h
    obtain rfl := Option.some.inj h
    exact ⟨rfl, by simp⟩
  | succ n ih =>
    intro s ls hn h
    cases s with
    | nil =>
      rw [dec_nil] at h
      obtain rfl := Option.some.inj h
      exact ⟨rfl, by simp⟩
    | cons c t =>
      rw [dec_cons] at h
      by_cases k : 1 ≤ c.toNat ∧ c.toNat ≤ 63 ∧ c.toNat ≤ t.length
      · rw [if_pos k] at h
        obtain ⟨ms, h1, rfl⟩ := Option.map_eq_some_iff.1 h
        have ⟨e, o⟩ := ih _ ms (by simp at hn ⊢; omega) h1
        have hl : (t.take c.toNat).length = c.toNat := by rw [List.length_take]; omega
        refine ⟨?_, ?_⟩
        · rw [enc_cons, e, encL, hl]
          simp
        · intro l hl2
          rcases List.mem_cons.1 hl2 with rfl | hl2
          · unfold Ok; rw [hl]; omega
          · exact o l hl2
      · rw [if_neg k] at h; cases h
/-- The labels of a name: small letters, and no more than 254 bytes. -/
def Nm (s : ByteArray) (ls : Lb) : Prop := B s = enc ls ∧ (∀ l ∈ ls, Ok l) ∧ Low (B s) ∧ s.size ≤ 254
theorem Nm.code {s : ByteArray} {ls : Lb} (h : Nm s ls) : dec (B s) = some ls := by rw [h.1]; exact dec_enc ls h.2.1
theorem Nm.uniq {s : ByteArray} {ls ms : Lb} (h : Nm s ls) (k : Nm s ms) : ls = ms := by
  have := h.code.symm.trans k.code; exact Option.some.inj this
theorem Nm.inj {s t : ByteArray} {ls : Lb} (h : Nm s ls) (k : Nm t ls) : s = t := B_inj (by rw [h.1, k.1])
theorem Nm.eq_iff {s t : ByteArray} {ls ms : Lb} (h : Nm s ls) (k : Nm t ms) : s = t ↔ ls = ms :=
  ⟨fun e => by subst e; exact h.uniq k, fun e => by subst e; exact h.inj k⟩
theorem Nm.of_dec {s : ByteArray} {ls : Lb} (h : dec (B s) = some ls) (hl : Low (B s)) (hs : s.size ≤ 254) : Nm s ls :=
  have ⟨e, o⟩ := enc_of_dec _ _ ls (Nat.le_refl _) h
  ⟨e.symm, o, hl, hs⟩
theorem Nm.nil : Nm (⟨#[]⟩ : ByteArray) [] := ⟨rfl, by simp, by intro c hc; simp [B] at hc, by decide⟩
theorem Nm.length {s : ByteArray} {ls : Lb} (h : Nm s ls) : (enc ls).length = s.size := by rw [← h.1, B_length]
theorem Nm.tail {s : ByteArray} {l : List UInt8} {ls : Lb} (h : Nm s (l :: ls)) : Nm (mkB (enc ls)) ls := by
  obtain ⟨h1, h2, h3, h4⟩ := h
  rw [enc_cons] at h1
  rw [h1] at h3
  have hlen : (encL l ++ enc ls).length ≤ 254 := by rw [← h1, B_length]; exact h4
  exact ⟨rfl, fun x hx => h2 x (by simp [hx]), (low_append.1 h3).2, by rw [mkB_size]; simp at hlen; omega⟩
theorem Nm.suffix {s : ByteArray} {a b : Lb} (h : Nm s (a ++ b)) : Nm (mkB (enc b)) b := by
  obtain ⟨h1, h2, h3, h4⟩ := h
  rw [enc_append] at h1
  rw [h1] at h3
  have hlen : (enc a ++ enc b).length ≤ 254 := by rw [← h1, B_length]; exact h4
  exact ⟨rfl, fun x hx => h2 x (by simp [hx]), (low_append.1 h3).2, by rw [mkB_size]; simp at hlen; omega⟩
theorem Nm.front {s : ByteArray} {a b : Lb} (h : Nm s (a ++ b)) : Nm (mkB (enc a)) a := by
  obtain ⟨h1, h2, h3, h4⟩ := h
  rw [enc_append] at h1
  rw [h1] at h3
  have hlen : (enc a ++ enc b).length ≤ 254 := by rw [← h1, B_length]; exact h4
  exact ⟨rfl, fun x hx => h2 x (by simp [hx]), (low_append.1 h3).1, by rw [mkB_size]; simp at hlen; omega⟩

/-! ### Labels -/
theorem labels_loop (n : Nat) : ∀ (k : Nat) (s : ByteArray) (acc : List ByteArray), s.size ≤ n → n + acc.length ≤ 1000 → n < k →
    name_Labels.l0 k acc s = some (match dec (B s) with | some ls => (acc ++ ls.map mkB, true) | none => ([], false)) := by
  induction n with
  | zero =>
    intro k s acc hs ha hk
    obtain ⟨k, rfl⟩ : ∃ m, k = m + 1 := ⟨k - 1, by omega⟩
    have e : B s = [] := List.eq_nil_of_length_eq_zero (by rw [B_length]; omega)
    simp only [name_Labels.l0]
    rw [if_neg (by omega), e, dec_nil]; simp
  | succ n ih =>
    intro k s acc hs ha hk
    obtain ⟨k, rfl⟩ : ∃ m, k = m + 1 := ⟨k - 1, by omega⟩
    simp only [name_Labels.l0]
    cases hB : B s with
    | nil =>
      have hz : s.size = 0 := by rw [← B_length, hB]; rfl
      rw [if_neg (by omega), dec_nil]; simp
    | cons c t =>
      have hz : s.size = t.length + 1 := by rw [← B_length, hB]; rfl
      have hb : bt s 0 = (c.toNat : Int) := by
        have := bt_B s 0 (by rw [hB]; simp)
        simp only [hB, List.getElem_cons_zero] at this
        exact this
      have hc := c.toNat_lt
      rw [if_pos (by omega), if_pos (by omega), hb, w64 (n := (c.toNat : Int)) (by omega) (by omega), w64 (n := 1 + (c.toNat : Int)) (by omega) (by omega), dec_cons]
      by_cases k1 : c.toNat < 1
      · rw [if_pos (by omega), if_neg (by omega)]
      · by_cases k2 : 63 < c.toNat
        · rw [if_neg (by omega), if_pos (by omega), if_neg (by omega)]
        · by_cases k3 : t.length + 1 ≤ c.toNat
          · rw [if_neg (by omega), if_neg (by omega), if_pos (by omega), if_neg (by omega)]
          · rw [if_neg (by omega), if_neg (by omega), if_neg (by omega), if_pos (by omega), if_pos (by omega), if_pos (by omega), if_pos (by omega), if_pos (by omega)]
            have e1 : (1 + (c.toNat : Int)).toNat = c.toNat + 1 := by omega
            rw [e1]
            have x1 : s.extract 1 (c.toNat + 1) = mkB (t.take c.toNat) := B_inj (by rw [B_extract, hB, B_mkB]; simp)
            have x2 : s.extract (c.toNat + 1) s.size = mkB (t.drop c.toNat) := B_inj (by
              rw [B_extract, hB, B_mkB, List.drop_succ_cons, List.take_of_length_le (by rw [List.length_drop]; omega)])
            rw [x1, x2, ih k _ _ (by rw [mkB_size, List.length_drop]; omega) (by rw [List.length_append]; simp; omega) (by omega), B_mkB]
            cases hd : dec (t.drop c.toNat) with
            | none => rfl
            | some ls => simp
theorem folded_some (s : ByteArray) (h : s.size ≤ 254) : name_folded.f s = some (foldS s) := by unfold name_folded.f; rw [if_pos (by omega)]
theorem labels_yes {s : ByteArray} {ls : Lb} (h : Nm s ls) : Ev (fun k => name_Labels.f k s) (ls.map mkB, true) := by
  obtain ⟨h1, h2, h3, h4⟩ := id h
  refine Ev.of (k := 300) (fun k => name_Labels.mono s k) ?_
  unfold name_Labels.f
  have e : (s.toList != (foldS s).toList) = false := by rw [(foldS_eq s).2 h3]; simp
  rw [if_neg (by omega), folded_some s h4, Option.bind_some, e]
  simp only [name_Labels.j0]
  rw [if_neg (by decide), labels_loop s.size _ s [] (Nat.le_refl _) (by simp; omega) (by omega), h.code]
  rfl
theorem labels_no {s : ByteArray} (h : ∀ ls, ¬ Nm s ls) : Ev (fun k => name_Labels.f k s) ([], false) := by
  refine Ev.of (k := 300) (fun k => name_Labels.mono s k) ?_
  unfold name_Labels.f
  by_cases h4 : s.size ≤ 254
  · rw [if_neg (by omega), folded_some s h4, Option.bind_some]
    by_cases h3 : Low (B s)
    · have e : (s.toList != (foldS s).toList) = false := by rw [(foldS_eq s).2 h3]; simp
      rw [e]
      simp only [name_Labels.j0]
      rw [if_neg (by decide), labels_loop s.size _ s [] (Nat.le_refl _) (by simp; omega) (by omega)]
      cases hd : dec (B s) with
      | none => rfl
      | some ls => exact absurd (Nm.of_dec hd h3 h4) (h ls)
    · have e : (s.toList != (foldS s).toList) = true := by
        rw [bne_iff_ne]
        intro he
        exact h3 ((foldS_eq s).1 ((toList_iff _ _).1 he).symm)
      rw [e]
      simp only [name_Labels.j0]
      rfl
  · rw [if_pos (by omega)]
    simp only [name_Labels.j0]
    rfl
theorem may_yes {s : ByteArray} {ls : Lb} (h : Nm s ls) : Ev (fun k => name_May.f k s) true := by
  obtain ⟨K, hK⟩ := labels_yes h
  exact ⟨K, fun k hk => by
    have h := hK k hk
    dsimp only at h
    show name_May.f k s = _
    unfold name_May.f; rw [h]; rfl⟩
theorem may_no {s : ByteArray} (h : ∀ ls, ¬ Nm s ls) : Ev (fun k => name_May.f k s) false := by
  obtain ⟨K, hK⟩ := labels_no h
  exact ⟨K, fun k hk => by
    have h := hK k hk
    dsimp only at h
    show name_May.f k s = _
    unfold name_May.f; rw [h]; rfl⟩

/-! ### Make -/
def foldL (l : ByteArray) : List UInt8 := (B l).map foldB
theorem lab_eq (l : ByteArray) : lab l = encL (foldL l) := by
  have e : (foldS l).data.toList = foldL l := foldS_B l
  unfold lab encL
  rw [e]
  unfold foldL
  rw [List.length_map, B_length]
theorem makeGo_eq : ∀ (ls : List ByteArray) (acc : List UInt8), acc.length ≤ 254 →
    ((∀ l ∈ ls, Ok (B l)) ∧ acc.length + (enc (ls.map foldL)).length ≤ 254 → makeGo ls acc = (mkB (acc ++ enc (ls.map foldL)), true)) ∧
    (¬ ((∀ l ∈ ls, Ok (B l)) ∧ acc.length + (enc (ls.map foldL)).length ≤ 254) → makeGo ls acc = ((⟨#[]⟩ : ByteArray), false))
  | [], acc, ha => ⟨fun _ => by simp [makeGo, mkB, enc], fun h => absurd ⟨by simp, by simpa [enc] using ha⟩ h⟩
  | l :: ls, acc, ha => by
    have hl : (foldL l).length = l.size := by unfold foldL; rw [List.length_map, B_length]
    have e1 : (enc ((l :: ls).map foldL)).length = l.size + 1 + (enc (ls.map foldL)).length := by
      rw [List.map_cons, enc_cons, List.length_append, encL_length, hl]
    rw [makeGo]
    by_cases c : l.size < 1 ∨ 63 < l.size ∨ 254 < acc.length + 1 + l.size
    · rw [if_pos c]
      refine ⟨fun h => ?_, fun _ => rfl⟩
      have ⟨o1, o2⟩ := h.1 l (by simp)
      have h2 := h.2
      rw [e1] at h2
      rw [B_length] at o1 o2
      omega
    · rw [if_neg c]
      have ih := makeGo_eq ls (acc ++ lab l) (by rw [List.length_append, lab_length]; omega)
      rw [List.length_append, lab_length] at ih
      refine ⟨fun h => ?_, fun h => ih.2 fun k => h ⟨fun x hx => ?_, by rw [e1]; omega⟩⟩
      · have h2 := h.2
        rw [e1] at h2
        rw [ih.1 ⟨fun x hx => h.1 x (by simp [hx]), by omega⟩, List.map_cons, enc_cons, lab_eq, List.append_assoc]
      · rcases List.mem_cons.1 hx with rfl | hx
        · unfold Ok; rw [B_length]; omega
        · exact k.1 x hx
theorem foldL_ok {l : ByteArray} (h : Ok (B l)) : Ok (foldL l) := by unfold foldL Ok; rw [List.length_map]; exact h
theorem enc_low {ls : Lb} (h : ∀ l ∈ ls, Ok l ∧ Low l) : Low (enc ls) := by
  induction ls with
  | nil => intro c hc; simp [enc] at hc
  | cons l ls ih =>
    rw [enc_cons, low_append]
    refine ⟨?_, ih fun x hx => h x (by simp [hx])⟩
    have ⟨⟨o1, o2⟩, o3⟩ := h l (by simp)
    intro c hc
    rcases List.mem_cons.1 hc with rfl | hc
    · simp; omega
    · exact o3 c hc
theorem make_nm {ls : List ByteArray} (h : ∀ l ∈ ls, Ok (B l)) (hs : (enc (ls.map foldL)).length ≤ 254) :
    name_Make.f ls = some (mkB (enc (ls.map foldL)), true) ∧ Nm (mkB (enc (ls.map foldL))) (ls.map foldL) := by
  have hl := enc_length_le (ls.map foldL)
  rw [List.length_map] at hl
  refine ⟨?_, ?_⟩
  · unfold name_Make.f
    rw [if_pos (by omega), (makeGo_eq ls [] (by simp)).1 ⟨h, by simpa using hs⟩]
    rfl
  · have ho : ∀ l ∈ ls.map foldL, Ok l ∧ Low l := by
      intro x hx
      obtain ⟨l, hl, rfl⟩ := List.mem_map.1 hx
      exact ⟨foldL_ok (h l hl), fold_low_list _⟩
    exact ⟨rfl, fun l hl => (ho l hl).1, by rw [B_mkB]; exact enc_low ho, by rw [mkB_size]; exact hs⟩
theorem make_none {ls : List ByteArray} (hlen : ls.length ≤ 140737488351232) (h : ¬ ((∀ l ∈ ls, Ok (B l)) ∧ (enc (ls.map foldL)).length ≤ 254)) : name_Make.f ls = some ((⟨#[]⟩ : ByteArray), false) := by
  unfold name_Make.f
  rw [if_pos hlen, (makeGo_eq ls [] (by simp)).2 (by simpa using h)]
theorem foldL_low {l : ByteArray} (h : Low (B l)) : foldL l = B l := low_map.2 h

/-! ### Parent -/
/-! ### Below -/
/-! ### Strip, Join -/
theorem Nm.join {a b : ByteArray} {ls ms : Lb} (ha : Nm a ls) (hb : Nm b ms) (hs : a.size + b.size ≤ 254) : Nm (a ++ b) (ls ++ ms) := by
  refine ⟨by rw [B_append, ha.1, hb.1, enc_append], fun l hl => ?_, by rw [B_append, low_append]; exact ⟨ha.2.2.1, hb.2.2.1⟩, by rw [ByteArray.size_append]; exact hs⟩
  rcases List.mem_append.1 hl with h | h
  · exact ha.2.1 l h
  · exact hb.2.1 l h
theorem join_yes {a b : ByteArray} {ls ms : Lb} (ha : Nm a ls) (hb : Nm b ms) (hs : a.size + b.size ≤ 254) : Ev (fun k => name_Join.f k a b) (a ++ b, true) := by
  obtain ⟨K1, h1⟩ := may_yes ha
  obtain ⟨K2, h2⟩ := may_yes hb
  dsimp only at h1 h2
  refine ⟨K1 + K2, fun k hk => ?_⟩
  show name_Join.f k a b = _
  unfold name_Join.f
  rw [h1 _ (by omega), Option.bind_some, if_pos rfl, h2 _ (by omega), Option.bind_some, if_pos rfl, w64 (n := (a.size : Int) + (b.size : Int)) (by omega) (by omega), if_neg (by omega), if_pos (by omega)]
theorem join_long {a b : ByteArray} {ls ms : Lb} (ha : Nm a ls) (hb : Nm b ms) (hs : 254 < a.size + b.size) : Ev (fun k => name_Join.f k a b) ((⟨#[]⟩ : ByteArray), false) := by
  obtain ⟨K1, h1⟩ := may_yes ha
  obtain ⟨K2, h2⟩ := may_yes hb
  dsimp only at h1 h2
  have h3 := ha.2.2.2
  have h4 := hb.2.2.2
  refine ⟨K1 + K2, fun k hk => ?_⟩
  show name_Join.f k a b = _
  unfold name_Join.f
  rw [h1 _ (by omega), Option.bind_some, if_pos rfl, h2 _ (by omega), Option.bind_some, if_pos rfl, w64 (n := (a.size : Int) + (b.size : Int)) (by omega) (by omega), if_pos (by omega)]
theorem join_no {a b : ByteArray} (h : (∀ ls, ¬ Nm a ls) ∨ (∀ ls, ¬ Nm b ls)) : Ev (fun k => name_Join.f k a b) ((⟨#[]⟩ : ByteArray), false) := by
  by_cases ca : ∃ ls, Nm a ls
  · obtain ⟨ls, ha⟩ := ca
    have hb : ∀ ls, ¬ Nm b ls := h.resolve_left (fun k => k ls ha)
    obtain ⟨K1, h1⟩ := may_yes ha
    obtain ⟨K2, h2⟩ := may_no hb
    dsimp only at h1 h2
    refine ⟨K1 + K2, fun k hk => ?_⟩
    show name_Join.f k a b = _
    unfold name_Join.f
    rw [h1 _ (by omega), Option.bind_some, if_pos rfl, h2 _ (by omega), Option.bind_some, if_neg (by decide)]
  · obtain ⟨K1, h1⟩ := may_no (fun ls k => ca ⟨ls, k⟩ : ∀ ls, ¬ Nm a ls)
    dsimp only at h1
    refine ⟨K1, fun k hk => ?_⟩
    show name_Join.f k a b = _
    unfold name_Join.f
    rw [h1 _ (by omega), Option.bind_some, if_neg (by decide)]

def theWords : List ByteArray := [(⟨#[97]⟩ : ByteArray), (⟨#[98]⟩ : ByteArray), (⟨#[99]⟩ : ByteArray), (⟨#[119, 119, 119]⟩ : ByteArray), (⟨#[101, 120]⟩ : ByteArray), (⟨#[111, 114, 103]⟩ : ByteArray), (⟨#[42]⟩ : ByteArray), (⟨#[114, 112, 122, 45, 105, 112]⟩ : ByteArray)]
def wordAt (n : Int) : ByteArray := rdOf ByteArray.empty theWords (Int.tmod n 8)
def wordsOf (ns : List Int) : List ByteArray := (ns.take 12).map wordAt
theorem words_ok : ∀ w ∈ theWords, (1 ≤ (B w).length ∧ (B w).length ≤ 6) ∧ (B w).map foldB = B w := by decide +kernel
theorem wordAt_mem (n : Int) (h0 : 0 ≤ n) : wordAt n ∈ theWords := by
  have h1 : 0 ≤ Int.tmod n 8 := Int.tmod_nonneg _ h0
  have h2 : Int.tmod n 8 < 8 := Int.tmod_lt_of_pos _ (by decide)
  have hl : (Int.tmod n 8).toNat < theWords.length := by show _ < 8; omega
  unfold wordAt rdOf
  rw [List.getD_eq_getElem?_getD, List.getElem?_eq_getElem hl, Option.getD_some]
  exact List.getElem_mem hl
theorem words_loop (ns : List Int) (hl : ns.length * 1 ≤ 140737488351232) (hx : ∀ x ∈ ns, (Lit.int .u8 x).wf = true) (d : Nat) :
    ∀ (k i : Nat), i + d = 12 → d + 1 < k → i ≤ ns.length → bolterlaw02_Words.l0 k ((ns.take i).map wordAt) ns (ns.length : Int) i = some (wordsOf ns) := by
  induction d with
  | zero =>
    intro k i hd hk hi
    obtain ⟨k, rfl⟩ : ∃ m, k = m + 1 := ⟨k - 1, by omega⟩
    obtain rfl : i = 12 := by omega
    simp only [bolterlaw02_Words.l0]
    by_cases h : ((12 : Nat) : Int) < (ns.length : Int)
    · rw [if_pos h, if_pos (by omega), if_pos h, if_pos (by rfl)]; rfl
    · rw [if_neg h]; rfl
  | succ d ih =>
    intro k i hd hk hi
    obtain ⟨k, rfl⟩ : ∃ m, k = m + 1 := ⟨k - 1, by omega⟩
    simp only [bolterlaw02_Words.l0]
    by_cases h : i < ns.length
    · have ⟨n0, n1⟩ := u8b (hx _ (List.getElem_mem h))
      have hr : rd ns (i : Int) = ns[i] := by simp [rd, List.getD_eq_getElem?_getD, h]
      have h1 : 0 ≤ Int.tmod ns[i] 8 := Int.tmod_nonneg _ n0
      have h2 : Int.tmod ns[i] 8 < 8 := Int.tmod_lt_of_pos _ (by decide)
      rw [if_pos (by omega), if_pos (by omega), if_pos (by omega), if_neg (by omega), Option.bind_some, hr, if_pos h1, if_pos (by simpa using h2), if_pos (by rw [List.length_map, List.length_take]; omega), w64 (n := (i : Int) + 1) (by omega) (by omega)]
      have step := ih k (i + 1) (by omega) (by omega) (by omega)
      rw [List.take_succ_eq_append_getElem h, List.map_append] at step
      exact step
    · rw [if_neg (by omega)]
      congr 1
      unfold wordsOf
      rw [List.take_of_length_le (by omega), List.take_of_length_le (by omega)]
theorem words_ev (ns : List Int) (hl : ns.length * 1 ≤ 140737488351232) (hx : ∀ x ∈ ns, (Lit.int .u8 x).wf = true) : Ev (fun k => bolterlaw02_Words.f k ns) (wordsOf ns) := by
  refine Ev.of (k := 20) (fun k => bolterlaw02_Words.mono ns k) ?_
  exact words_loop ns hl hx 12 20 0 rfl (by omega) (by omega)
theorem wordsOf_mem {ns : List Int} (hx : ∀ x ∈ ns, (Lit.int .u8 x).wf = true) {w : ByteArray} (h : w ∈ wordsOf ns) : w ∈ theWords := by
  obtain ⟨n, hn, rfl⟩ := List.mem_map.1 h
  exact wordAt_mem n (u8b (hx n (List.mem_of_mem_take hn))).1
def lbs (ns : List Int) : Lb := (wordsOf ns).map B
theorem wordsOf_length (ns : List Int) : (wordsOf ns).length ≤ 12 := by unfold wordsOf; rw [List.length_map, List.length_take]; omega
theorem fold_words {ws : List ByteArray} (h : ∀ w ∈ ws, w ∈ theWords) : ws.map foldL = ws.map B := by
  apply List.map_congr_left
  intro w hw
  exact (words_ok w (h w hw)).2
theorem enc_words : ∀ {ws : List ByteArray}, (∀ w ∈ ws, w ∈ theWords) → (enc (ws.map B)).length ≤ 7 * ws.length
  | [], _ => by simp [enc]
  | w :: ws, h => by
    have := enc_words (ws := ws) (fun x hx => h x (by simp [hx]))
    have h1 := (words_ok w (h w (by simp))).1
    rw [List.map_cons, enc_cons, List.length_append, encL_length, List.length_cons]
    omega
theorem make_words {ws : List ByteArray} (h : ∀ w ∈ ws, w ∈ theWords) (hl : ws.length ≤ 12) :
    name_Make.f ws = some (mkB (enc (ws.map B)), true) ∧ Nm (mkB (enc (ws.map B))) (ws.map B) := by
  have e := fold_words h
  have hlen := enc_words h
  have := make_nm (ls := ws) (fun w hw => by have := (words_ok w (h w hw)).1; unfold Ok; omega) (by rw [e]; omega)
  rw [e] at this
  exact this
theorem name_ev (ns : List Int) (hl : ns.length * 1 ≤ 140737488351232) (hx : ∀ x ∈ ns, (Lit.int .u8 x).wf = true) :
    Ev (fun k => bolterlaw02_Name.f k ns) (mkB (enc (lbs ns))) ∧ Nm (mkB (enc (lbs ns))) (lbs ns) := by
  have ⟨m1, m2⟩ := make_words (ws := wordsOf ns) (fun w hw => wordsOf_mem hx hw) (wordsOf_length ns)
  refine ⟨?_, m2⟩
  obtain ⟨K, hK⟩ := words_ev ns hl hx
  dsimp only at hK
  refine ⟨K, fun k hk => ?_⟩
  show bolterlaw02_Name.f k ns = _
  unfold bolterlaw02_Name.f
  rw [hK k hk, Option.bind_some, m1, Option.bind_some]
  rfl

instance (l : List UInt8) : Decidable (Low l) := by unfold Low; infer_instance
theorem nm_or (s : ByteArray) : (∃ ls, Nm s ls) ∨ ∀ ls, ¬ Nm s ls := by
  by_cases h : ∃ ls, Nm s ls
  · exact .inl h
  · exact .inr fun ls k => h ⟨ls, k⟩
end Go.Proofs.Ytdkjlbbbdjkhbaa.NamL

/- The targets that the statements are about; the goal. -/
namespace Go.Proofs.Ytdkjlbbbdjkhbaa.ActA
open Go.RowKit Go.Proofs.Ytdkjlbbbdjkhbaa.PAll Go.Proofs.Ytdkjlbbbdjkhbaa.Hand Go.Proofs.Ytdkjlbbbdjkhbaa.NamL Go.Proofs.YtdkjlbbbdjkhbaaW.PrintWords Go.Proofs.YtdkjlbbbdjkhbaaW.PrintLast

/-! ### the targets -/
def bStar : List UInt8 := [42]
def bOrg : List UInt8 := [111, 114, 103]
def bPass : List UInt8 := [114, 112, 122, 45, 112, 97, 115, 115, 116, 104, 114, 117]
def bDrop : List UInt8 := [114, 112, 122, 45, 100, 114, 111, 112]
def bTcp : List UInt8 := [114, 112, 122, 45, 116, 99, 112, 45, 111, 110, 108, 121]
/-- The labels of a target. -/
def tlbs (how : Int) (ns : List Int) : Lb :=
  if Int.tmod how 8 = 0 then [] else if Int.tmod how 8 = 1 then [bStar] else if Int.tmod how 8 = 2 then [bPass] else if Int.tmod how 8 = 3 then [bDrop] else if Int.tmod how 8 = 4 then [bTcp]
  else if Int.tmod how 8 = 5 then [bStar, bOrg] else lbs ns
theorem fix_nm (ls : List ByteArray) (h : (∀ l ∈ ls, Ok (B l)) ∧ (enc (ls.map foldL)).length ≤ 254 ∧ ls.map foldL = ls.map B) :
    name_Make.f ls = some (mkB (enc (ls.map B)), true) ∧ Nm (mkB (enc (ls.map B))) (ls.map B) := by
  have := make_nm h.1 h.2.1
  rw [h.2.2] at this
  exact this
instance (l : List UInt8) : Decidable (Ok l) := by unfold Ok; infer_instance
theorem lbs_size (ns : List Int) (hx : ∀ x ∈ ns, (Lit.int .u8 x).wf = true) : (enc (lbs ns)).length ≤ 84 := by
  have h := enc_words (ws := wordsOf ns) (fun w hw => wordsOf_mem hx hw)
  have := wordsOf_length ns
  unfold lbs
  omega
theorem target_ev (how : Int) (ns : List Int) (hh : (Lit.int .u8 how).wf = true) (hl : ns.length * 1 ≤ 140737488351232) (hx : ∀ x ∈ ns, (Lit.int .u8 x).wf = true) :
    Ev (fun k => bolterlaw14_Target.f k how ns) (mkB (enc (tlbs how ns))) ∧ Nm (mkB (enc (tlbs how ns))) (tlbs how ns) ∧ (enc (tlbs how ns)).length ≤ 84 := by
  have ⟨h0, h1⟩ := u8b hh
  have ⟨n1, n2⟩ := name_ev ns hl hx
  have n3 := lbs_size ns hx
  have ht : 0 ≤ Int.tmod how 8 ∧ Int.tmod how 8 < 8 := ⟨Int.tmod_nonneg _ h0, Int.tmod_lt_of_pos _ (by decide)⟩
  unfold tlbs
  have small : ∀ (i : Int) (ls : List ByteArray) (L : Lb), 0 ≤ i → i < 6 → Int.tmod how 8 = i →
      rd_L7 [([] : List ByteArray), [(⟨#[42]⟩ : ByteArray)], [(⟨#[114, 112, 122, 45, 112, 97, 115, 115, 116, 104, 114, 117]⟩ : ByteArray)], [(⟨#[114, 112, 122, 45, 100, 114, 111, 112]⟩ : ByteArray)], [(⟨#[114, 112, 122, 45, 116, 99, 112, 45, 111, 110, 108, 121]⟩ : ByteArray)], [(⟨#[42]⟩ : ByteArray), (⟨#[111, 114, 103]⟩ : ByteArray)]] i = ls →
      ((∀ l ∈ ls, Ok (B l)) ∧ (enc (ls.map foldL)).length ≤ 254 ∧ ls.map foldL = ls.map B) → ls.map B = L → (enc L).length ≤ 84 →
      Ev (fun k => bolterlaw14_Target.f k how ns) (mkB (enc L)) ∧ Nm (mkB (enc L)) L ∧ (enc L).length ≤ 84 := by
    intro i ls L i0 i6 hi hr hls hL h84
    have ⟨m1, m2⟩ := fix_nm ls hls
    rw [hL] at m1 m2
    refine ⟨⟨0, fun k _ => ?_⟩, m2, h84⟩
    show bolterlaw14_Target.f k how ns = _
    unfold bolterlaw14_Target.f
    rw [Option.bind_some, hi, if_pos i6, if_pos i0, if_pos (by simp only [List.length_cons, List.length_nil]; omega), hr, m1, Option.bind_some]
  by_cases e0 : Int.tmod how 8 = 0
  · rw [if_pos e0]; exact small 0 _ _ (by decide) (by decide) e0 rfl (by decide +kernel) rfl (by decide)
  rw [if_neg e0]
  by_cases e1 : Int.tmod how 8 = 1
  · rw [if_pos e1]; exact small 1 _ _ (by decide) (by decide) e1 rfl (by decide +kernel) rfl (by decide)
  rw [if_neg e1]
  by_cases e2 : Int.tmod how 8 = 2
  · rw [if_pos e2]; exact small 2 _ _ (by decide) (by decide) e2 rfl (by decide +kernel) rfl (by decide)
  rw [if_neg e2]
  by_cases e3 : Int.tmod how 8 = 3
  · rw [if_pos e3]; exact small 3 _ _ (by decide) (by decide) e3 rfl (by decide +kernel) rfl (by decide)
  rw [if_neg e3]
  by_cases e4 : Int.tmod how 8 = 4
  · rw [if_pos e4]; exact small 4 _ _ (by decide) (by decide) e4 rfl (by decide +kernel) rfl (by decide)
  rw [if_neg e4]
  by_cases e5 : Int.tmod how 8 = 5
  · rw [if_pos e5]; exact small 5 _ _ (by decide) (by decide) e5 rfl (by decide +kernel) rfl (by decide)
  rw [if_neg e5]
  obtain ⟨K, hK⟩ := n1
  refine ⟨⟨K, fun k hk => ?_⟩, n2, n3⟩
  dsimp only at hK
  show bolterlaw14_Target.f k how ns = _
  unfold bolterlaw14_Target.f
  rw [Option.bind_some, if_neg (by omega), hK k hk, Option.bind_some]

/-! ### the goal -/
theorem goal_other {kind : Int} (hk : kind ≠ 7) (s : ByteArray) (wild : Bool) (l : List S43) (n : ByteArray) : Ev (fun k => action_Goal.f k kind s wild l n) ((⟨#[]⟩ : ByteArray), false) := by
  refine ⟨1, fun k hk1 => ?_⟩
  obtain ⟨m, rfl⟩ : ∃ m, k = m + 1 := ⟨k - 1, by omega⟩
  show action_Goal.f (m + 1) kind s wild l n = _
  unfold action_Goal.f
  rw [if_neg hk]
  rfl
theorem goal_none {s : ByteArray} (h : ∀ ls, ¬ Nm s ls) (wild : Bool) (l : List S43) (n : ByteArray) : Ev (fun k => action_Goal.f k 7 s wild l n) ((⟨#[]⟩ : ByteArray), false) := by
  obtain ⟨K, hK⟩ := may_no h
  dsimp only at hK
  refine ⟨K + 1, fun k hk1 => ?_⟩
  obtain ⟨m, rfl⟩ : ∃ m, k = m + 1 := ⟨k - 1, by omega⟩
  show action_Goal.f (m + 1) 7 s wild l n = _
  unfold action_Goal.f
  rw [if_pos rfl, hK _ (by omega), Option.bind_some]
  rfl
theorem goal_plain {s : ByteArray} {ls : Lb} (h : Nm s ls) (l : List S43) (n : ByteArray) : Ev (fun k => action_Goal.f k 7 s false l n) (s, true) := by
  obtain ⟨K, hK⟩ := may_yes h
  dsimp only at hK
  refine ⟨K + 1, fun k hk1 => ?_⟩
  obtain ⟨m, rfl⟩ : ∃ m, k = m + 1 := ⟨k - 1, by omega⟩
  show action_Goal.f (m + 1) 7 s false l n = _
  unfold action_Goal.f
  rw [if_pos rfl, hK _ (by omega), Option.bind_some]
  rfl
theorem goal_wild {s n : ByteArray} {ls ms : Lb} (h : Nm s ls) (hn : Nm n ms) (l : List S43) : Ev (fun k => action_Goal.f k 7 s true l n) (if n.size + s.size ≤ 254 then (n ++ s, true) else ((⟨#[]⟩ : ByteArray), false)) := by
  obtain ⟨K, hK⟩ := may_yes h
  have hj : Ev (fun k => name_Join.f k n s) (if n.size + s.size ≤ 254 then (n ++ s, true) else ((⟨#[]⟩ : ByteArray), false)) := by
    by_cases c : n.size + s.size ≤ 254
    · rw [if_pos c]; exact join_yes hn h c
    · rw [if_neg c]; exact join_long hn h (by omega)
  obtain ⟨J, hJ⟩ := hj
  dsimp only at hK hJ
  refine ⟨K + J + 1, fun k hk1 => ?_⟩
  obtain ⟨m, rfl⟩ : ∃ m, k = m + 1 := ⟨k - 1, by omega⟩
  show action_Goal.f (m + 1) 7 s true l n = _
  unfold action_Goal.f
  rw [if_pos rfl, hK _ (by omega), Option.bind_some]
  simp only [action_Goal.j0]
  rw [if_neg (by decide), if_pos trivial, hJ _ (by omega), Option.bind_some]
end Go.Proofs.Ytdkjlbbbdjkhbaa.ActA

/- Records made by numbers: they are there, and those that are a CNAME hold a name. -/
namespace Go.Proofs.Ytdkjlbbbdjkhbaa.ActA
open Go.RowKit Go.Proofs.Ytdkjlbbbdjkhbaa.PAll Go.Proofs.Ytdkjlbbbdjkhbaa.Hand Go.Proofs.Ytdkjlbbbdjkhbaa.NamL Go.Proofs.YtdkjlbbbdjkhbaaW.PrintWords Go.Proofs.YtdkjlbbbdjkhbaaW.PrintLast Go.Proofs.YtdkjlbbbdjkhbaaW.PrintMore
/-- Data that may be. -/
def DataOk (r : Int × ByteArray) : Prop := (r.1 = 5 → ∃ ls, Nm r.2 ls) ∧ r.2.size ≤ 600
theorem bsize_le {s : ByteArray} {ls : Lb} (h : Nm s ls) : s.size ≤ 254 := h.2.2.2
theorem data_tail {x8 : ByteArray} {ls : Lb} (hx : Nm x8 ls) (x2 : ByteArray) (hs : x2.size ≤ 30) (t : Int) (b : Bool) (k : Nat) : ∃ r, DataOk r ∧ bolterlaw04_Data.j0 (k + 1) x2 x8 t b = some r := by
  have h8 := bsize_le hx
  have ap : ∀ (a : ByteArray) (l : Array UInt8), (a ++ (⟨l⟩ : ByteArray)).size = a.size + l.size := fun a l => ByteArray.size_append
  have ex : ∀ (a : ByteArray) (i j : Nat), (a.extract i j).size = min j a.size - i := fun a i j => ByteArray.size_extract
  simp only [bolterlaw04_Data.j0]
  cases b
  · rw [if_neg Bool.false_ne_true]
    by_cases c2 : t = 2
    · rw [if_pos c2]; exact ⟨_, ⟨fun h => absurd h (show ¬ (2 : Int) = 5 by decide), by show x8.size ≤ 600; omega⟩, rfl⟩
    rw [if_neg c2]
    by_cases c3 : t = 3
    · rw [if_pos c3]; exact ⟨_, ⟨fun _ => ⟨ls, hx⟩, by show x8.size ≤ 600; omega⟩, rfl⟩
    rw [if_neg c3]
    by_cases c4 : t = 4
    · have e1 : (x8 ++ (⟨#[0]⟩ : ByteArray)).size = x8.size + 1 := ap _ _
      have e2 : ((x8 ++ (⟨#[0]⟩ : ByteArray)) ++ x8).size = x8.size + 1 + x8.size := by rw [ByteArray.size_append, e1]
      have e3 : (((x8 ++ (⟨#[0]⟩ : ByteArray)) ++ x8) ++ (⟨#[0]⟩ : ByteArray)).size = x8.size + 1 + x8.size + 1 := by rw [ap, e2]; rfl
      have e4 : (x2 ++ (⟨#[48, 49, 50, 51, 52, 53, 54, 55, 56, 57, 48, 49, 50, 51, 52, 53, 54, 55, 56, 57]⟩ : ByteArray)).size = x2.size + 20 := ap _ _
      have e5 : ((x2 ++ (⟨#[48, 49, 50, 51, 52, 53, 54, 55, 56, 57, 48, 49, 50, 51, 52, 53, 54, 55, 56, 57]⟩ : ByteArray)).extract 0 20).size = 20 := by rw [ex, e4]; omega
      rw [if_pos c4, if_pos (by omega), if_pos (by rw [e1]; omega), if_pos (by rw [e2]; omega), if_pos (by omega), if_pos (by decide), if_pos (by rw [e4]; omega), if_pos (by rw [e3, e5]; omega)]
      exact ⟨_, ⟨fun h => absurd h (show ¬ (6 : Int) = 5 by decide), by show (_ ++ _ : ByteArray).size ≤ 600; rw [ByteArray.size_append, e3, e5]; omega⟩, rfl⟩
    rw [if_neg c4]
    by_cases c5 : t = 5
    · have em : mn (x2.size : Int) 255 = (x2.size : Int) := by unfold mn; rw [if_neg (by omega)]
      have e1 : (strOfNums [mn (x2.size : Int) 255]).size = 1 := by rw [strOfNums_size]; rfl
      have e2 : (x2.extract 0 ((x2.size : Int)).toNat).size = x2.size := by rw [ex]; omega
      rw [if_pos c5, Option.bind_some, em, if_pos (by omega), if_pos (by omega), if_pos (by rw [← em, e1, em, e2]; omega)]
      exact ⟨_, ⟨fun h => absurd h (show ¬ (16 : Int) = 5 by decide), by show (_ ++ _ : ByteArray).size ≤ 600; rw [ByteArray.size_append, e2, strOfNums_size]; simp only [List.length_cons, List.length_nil]; omega⟩, rfl⟩
    rw [if_neg c5]
    by_cases c6 : t = 6
    · have e4 : (x2 ++ (⟨#[48, 49, 50, 51, 52, 53, 54, 55, 56, 57, 97, 98, 99, 100, 101, 102]⟩ : ByteArray)).size = x2.size + 16 := ap _ _
      rw [if_pos c6, if_pos (by omega), if_pos (by decide), if_pos (by rw [e4]; omega)]
      exact ⟨_, ⟨fun h => absurd h (show ¬ (28 : Int) = 5 by decide), by show (ByteArray.extract _ _ _).size ≤ 600; rw [ex]; omega⟩, rfl⟩
    rw [if_neg c6]
    have em : mn (x2.size : Int) 512 = (x2.size : Int) := by unfold mn; rw [if_neg (by omega)]
    rw [em, if_pos (by omega), if_pos (by omega)]
    exact ⟨_, ⟨fun h => absurd h (show ¬ (99 : Int) = 5 by decide), by show (ByteArray.extract _ _ _).size ≤ 600; rw [ex]; omega⟩, rfl⟩
  · have e4 : (x2 ++ (⟨#[1, 2, 3, 4]⟩ : ByteArray)).size = x2.size + 4 := ap _ _
    rw [if_pos rfl, if_pos (by omega), if_pos (by decide), if_pos (by rw [e4]; omega)]
    exact ⟨_, ⟨fun h => absurd h (show ¬ (1 : Int) = 5 by decide), by show (ByteArray.extract _ _ _).size ≤ 600; rw [ex]; omega⟩, rfl⟩
theorem data_ev (t : Int) (ns : List Int) (hl : ns.length * 1 ≤ 140737488351232) (hx : ∀ x ∈ ns, (Lit.int .u8 x).wf = true) (s : ByteArray) (hs : s.size ≤ 30) : ∃ r, DataOk r ∧ Ev (fun k => bolterlaw04_Data.f k t ns s) r := by
  obtain ⟨⟨K, hK⟩, nm⟩ := name_ev ns hl hx
  dsimp only at hK
  by_cases c : Int.tmod t 8 = 0
  · obtain ⟨r, h1, h2⟩ := data_tail nm s hs (Int.tmod t 8) (Int.tmod t 8 == 0) K
    refine ⟨r, h1, Ev.of (k := K + 1) (fun k => bolterlaw04_Data.mono t ns s k) ?_⟩
    unfold bolterlaw04_Data.f
    rw [hK _ (by omega), Option.bind_some, if_pos c]
    exact h2
  · obtain ⟨r, h1, h2⟩ := data_tail nm s hs (Int.tmod t 8) (Int.tmod t 8 == 1) K
    refine ⟨r, h1, Ev.of (k := K + 1) (fun k => bolterlaw04_Data.mono t ns s k) ?_⟩
    unfold bolterlaw04_Data.f
    rw [hK _ (by omega), Option.bind_some, if_neg c]
    exact h2
/-- A record's numbers, as they come in. -/
def ActOk (a : S86) : Prop := a.f0.length * 1 ≤ 140737488351232 ∧ (∀ x ∈ a.f0, (Lit.int .u8 x).wf = true) ∧ a.f3.length * 1 ≤ 140737488351232 ∧ (∀ x ∈ a.f3, (Lit.int .u8 x).wf = true)
/-- A record that may be. -/
def RecOk (r : S43) : Prop := r.f1 = 5 → ∃ ls, Nm r.f3 ls
theorem record_ev (a : S86) (ha : ActOk a) : ∃ r : S43, RecOk r ∧ Ev (fun k => bolterlaw05_Record.f k a.f0 a.f1 a.f2 a.f3 a.f4) (r.f0, r.f1, r.f2, r.f3) := by
  have em : 0 ≤ mn (a.f4.size : Int) 30 ∧ mn (a.f4.size : Int) 30 ≤ (a.f4.size : Int) ∧ mn (a.f4.size : Int) 30 ≤ 30 := by unfold mn; split <;> omega
  have es : (a.f4.extract 0 (mn (a.f4.size : Int) 30).toNat).size ≤ 30 := by rw [ByteArray.size_extract]; omega
  obtain ⟨⟨ty, d⟩, h1, K1, h2⟩ := data_ev (IntKind.u16.wrap a.f1) a.f3 ha.2.2.1 ha.2.2.2 _ es
  obtain ⟨⟨K2, h3⟩, _⟩ := name_ev a.f0 ha.1 ha.2.1
  dsimp only at h2 h3
  refine ⟨⟨mkB (enc (lbs a.f0)), ty, a.f2, d⟩, h1.1, K1 + K2, fun k hk => ?_⟩
  show bolterlaw05_Record.f k a.f0 a.f1 a.f2 a.f3 a.f4 = _
  unfold bolterlaw05_Record.f
  rw [if_pos em.1, if_pos em.2.1, h2 k (by omega), Option.bind_some, h3 k (by omega), Option.bind_some]
theorem rdT86 (l : List S86) (i : Nat) (h : i < l.length) : rd_T86 l (i : Int) = l[i] := by simp [rd_T86, List.getD_eq_getElem?_getD, h]
theorem records_loop (ac : List S86) (most : Nat) (ha : ∀ a ∈ ac, ActOk a) (hl : ac.length ≤ 140737488351232) (hm : most ≤ 100) (d : Nat) :
    ∀ (i : Nat) (acc : List S43), ac.length = i + d → (acc.length = min i most) → (∀ r ∈ acc, RecOk r) →
      ∃ rs : List S43, rs.length = min ac.length most ∧ (∀ r ∈ rs, RecOk r) ∧ Ev (fun k => bolterlaw05_Records.l0 k (most : Int) acc ac (ac.length : Int) i) rs := by
  induction d with
  | zero =>
    intro i acc hi hacc hr
    refine ⟨acc, by omega, hr, 1, fun k hk => ?_⟩
    obtain ⟨k, rfl⟩ : ∃ m, k = m + 1 := ⟨k - 1, by omega⟩
    simp only [bolterlaw05_Records.l0]
    rw [if_neg (by omega)]
  | succ d ih =>
    intro i acc hi hacc hr
    have hx : i < ac.length := by omega
    by_cases c : i < most
    · obtain ⟨r, hro, K1, h1⟩ := record_ev ac[i] (ha _ (List.getElem_mem hx))
      obtain ⟨rs, l1, l2, K2, h2⟩ := ih (i + 1) (acc ++ [r]) (by omega) (by rw [List.length_append, List.length_singleton]; omega) (by
        intro x hx'
        rcases List.mem_append.1 hx' with h | h
        · exact hr x h
        · rw [List.mem_singleton.1 h]; exact hro)
      dsimp only at h1 h2
      refine ⟨rs, l1, l2, K1 + K2 + 1, fun k hk => ?_⟩
      obtain ⟨k, rfl⟩ : ∃ m, k = m + 1 := ⟨k - 1, by omega⟩
      simp only [bolterlaw05_Records.l0]
      rw [if_pos (by omega), if_pos (by omega), if_pos (by omega), if_pos (by omega), rdT86 ac i hx, h1 k (by omega), Option.bind_some, if_pos (by omega), w64 (n := (i : Int) + 1) (by omega) (by omega)]
      rw [show ((i : Int) + 1) = ((i + 1 : Nat) : Int) from rfl]
      exact h2 k (by omega)
    · obtain ⟨rs, l1, l2, K2, h2⟩ := ih (i + 1) acc (by omega) (by omega) hr
      dsimp only at h2
      refine ⟨rs, l1, l2, K2 + 1, fun k hk => ?_⟩
      obtain ⟨k, rfl⟩ : ∃ m, k = m + 1 := ⟨k - 1, by omega⟩
      simp only [bolterlaw05_Records.l0]
      rw [if_pos (by omega), if_pos (by omega), if_pos (by omega), if_neg (by omega), w64 (n := (i : Int) + 1) (by omega) (by omega)]
      rw [show ((i : Int) + 1) = ((i + 1 : Nat) : Int) from rfl]
      exact h2 k (by omega)
theorem records_ev (ac : List S86) (most : Nat) (ha : ∀ a ∈ ac, ActOk a) (hl : ac.length ≤ 140737488351232) (hm : most ≤ 100) :
    ∃ rs : List S43, rs.length = min ac.length most ∧ (∀ r ∈ rs, RecOk r) ∧ Ev (fun k => bolterlaw05_Records.f k ac (most : Int)) rs := by
  obtain ⟨rs, l1, l2, K, h⟩ := records_loop ac most ha hl hm ac.length 0 [] (by omega) (by simp) (by simp)
  exact ⟨rs, l1, l2, K, fun k hk => h k hk⟩
end Go.Proofs.Ytdkjlbbbdjkhbaa.ActA

/- What a reply by an action is, in plain words: for ReplyOf and ReplyHides. -/
namespace Go.Proofs.Ytdkjlbbbdjkhbaa.Pure
open Go.RowKit Go.Proofs.Ytdkjlbbbdjkhbaa.PAll Go.Proofs.Ytdkjlbbbdjkhbaa.Hand Go.Proofs.Ytdkjlbbbdjkhbaa.NamL Go.Proofs.Ytdkjlbbbdjkhbaa.RecA Go.Proofs.Ytdkjlbbbdjkhbaa.RepB Go.Proofs.Ytdkjlbbbdjkhbaa.ActA Go.Proofs.YtdkjlbbbdjkhbaaW.PrintWords Go.Proofs.YtdkjlbbbdjkhbaaW.PrintLast

/-- A message that came in. -/
def toMs (m : (Int × Bool × Int × Bool × Bool × Bool × Bool × Int) × (ByteArray × Int) × List S43 × List S43 × List S43 × Int) : Ms :=
  ⟨m.1.1, m.1.2.1, m.1.2.2.1, m.1.2.2.2.1, m.1.2.2.2.2.1, m.1.2.2.2.2.2.1, m.1.2.2.2.2.2.2.1, m.1.2.2.2.2.2.2.2, m.2.1.1, m.2.1.2, m.2.2.1, m.2.2.2.1, m.2.2.2.2.1, m.2.2.2.2.2⟩
theorem short {l : List S43} (h : l.length * 40 ≤ 140737488351232) : l.length < 3518437208883 := by omega

/-! ### the goal, the records of a type -/
theorem goal_any (s n : ByteArray) (wild : Bool) (l : List S43) : ∃ g, Ev (fun k => action_Goal.f k 7 s wild l n) g := by
  rcases nm_or s with ⟨ls, h⟩ | h
  · cases wild
    · exact ⟨_, goal_plain h l n⟩
    · rcases nm_or n with ⟨ms, hn⟩ | hn
      · exact ⟨_, goal_wild h hn l⟩
      · obtain ⟨K, hK⟩ := may_yes h
        obtain ⟨J, hJ⟩ := join_no (a := n) (b := s) (.inl hn)
        dsimp only at hK hJ
        refine ⟨((⟨#[]⟩ : ByteArray), false), K + J + 1, fun k hk1 => ?_⟩
        obtain ⟨m, rfl⟩ : ∃ m, k = m + 1 := ⟨k - 1, by omega⟩
        show action_Goal.f (m + 1) 7 s true l n = _
        unfold action_Goal.f
        rw [if_pos rfl, hK _ (by omega), Option.bind_some]
        simp only [action_Goal.j0]
        rw [if_neg (by decide), if_pos trivial, hJ _ (by omega), Option.bind_some]
  · exact ⟨_, goal_none h wild l n⟩
theorem local_loop (kind : Int) (tgt : ByteArray) (wild : Bool) (nm : ByteArray) (ty : Int) (rs : List S43) (hl : rs.length ≤ 1000) (d : Nat) :
    ∀ (k i : Nat), rs.length = i + d → d < k → reply_local.l0 k (locOf nm ty (rs.take i)) rs (rs.length : Int) i nm ty = some (locOf nm ty rs) := by
  induction d with
  | zero =>
    intro k i hd hk
    obtain ⟨k, rfl⟩ : ∃ m, k = m + 1 := ⟨k - 1, by omega⟩
    obtain rfl : i = rs.length := by omega
    simp only [reply_local.l0]
    rw [if_neg (by omega), List.take_length]
  | succ d ih =>
    intro k i hd hk
    obtain ⟨k, rfl⟩ : ∃ m, k = m + 1 := ⟨k - 1, by omega⟩
    have hx : i < rs.length := by omega
    have hr := RecA.rdx rs i hx
    have hw : wrap64 ((i : Int) + 1) = ((i + 1 : Nat) : Int) := NamL.w64 (n := (i : Int) + 1) (by omega) (by omega)
    have step := ih k (i + 1) (by omega) (by omega)
    have hlen := locOf_len nm ty (rs.take i)
    rw [List.length_take] at hlen
    have yes : (rd_T43 rs (i : Int)).f1 = ty → reply_local.l0 k (locOf nm ty (rs.take i) ++ [⟨nm, (rd_T43 rs (i : Int)).f1, (rd_T43 rs (i : Int)).f2, (rd_T43 rs (i : Int)).f3⟩]) rs (rs.length : Int) ((i + 1 : Nat) : Int) nm ty = some (locOf nm ty rs) := fun h => by
      rw [locOf_yes nm ty rs i hx _ hr h] at step
      exact step
    have no : ¬ (rd_T43 rs (i : Int)).f1 = ty → reply_local.l0 k (locOf nm ty (rs.take i)) rs (rs.length : Int) ((i + 1 : Nat) : Int) nm ty = some (locOf nm ty rs) := fun h => by
      rw [locOf_no nm ty rs i hx _ hr h] at step
      exact step
    clear hr step
    simp only [reply_local.l0]
    rw [if_pos (by omega), if_pos (by omega), if_pos (by omega), hw]
    by_cases c : (rd_T43 rs (i : Int)).f1 = ty
    · rw [if_pos c, if_pos (by omega)]
      exact yes c
    · rw [if_neg c]
      exact no c
theorem local_at (k : Nat) (kind : Int) (tgt : ByteArray) (wild : Bool) (nm : ByteArray) (ty : Int) (rs : List S43) (hl : rs.length ≤ 1000) (hk : 1001 < k) : reply_local.f k kind tgt wild rs nm ty = some (locOf nm ty rs) :=
  local_loop kind tgt wild nm ty rs hl rs.length k 0 (by omega) (by omega)

/-! ### the action of a choice; which actions change an answer -/
theorem action_ev (ck cw : Int) (ns : List Int) (crs : List S86) (h0 : (Lit.int .u8 ck).wf = true) (h1 : (Lit.int .u8 cw).wf = true) (hl : ns.length * 1 ≤ 140737488351232) (hx : ∀ x ∈ ns, (Lit.int .u8 x).wf = true) (ha : ∀ a ∈ crs, ActOk a) (hal : crs.length ≤ 140737488351232) :
    ∃ (kind : Int) (tgt : ByteArray) (wild : Bool) (recs : List S43), recs.length ≤ 6 ∧ Ev (fun k => bolterlaw21_Choice_Action.f k ck cw ns crs) (kind, tgt, wild, recs) := by
  have ⟨t1, t2, _⟩ := target_ev cw ns h1 hl hx
  obtain ⟨K1, hT⟩ := t1
  obtain ⟨rs, r1, r2, K2, hR⟩ := records_ev crs 6 ha hal (by decide)
  dsimp only at hT hR
  by_cases c7 : wrap64 (Int.tmod ck 10) = 7
  · refine ⟨wrap64 (Int.tmod ck 10), mkB (enc (tlbs cw ns)), (Int.tmod cw 3) == 0, [], by simp, K1, fun k hk => ?_⟩
    show bolterlaw21_Choice_Action.f k ck cw ns crs = _
    unfold bolterlaw21_Choice_Action.f
    rw [if_pos c7, hT k hk, Option.bind_some, if_neg (by omega)]
  · by_cases c8 : wrap64 (Int.tmod ck 10) = 8
    · refine ⟨wrap64 (Int.tmod ck 10), ⟨#[]⟩, false, rs, by omega, K2, fun k hk => ?_⟩
      show bolterlaw21_Choice_Action.f k ck cw ns crs = _
      unfold bolterlaw21_Choice_Action.f
      have e := hR k hk
      rw [if_neg c7, if_pos c8, show bolterlaw05_Records.f k crs 6 = some rs from e, Option.bind_some]
    · refine ⟨wrap64 (Int.tmod ck 10), ⟨#[]⟩, false, [], by simp, 0, fun k hk => ?_⟩
      show bolterlaw21_Choice_Action.f k ck cw ns crs = _
      unfold bolterlaw21_Choice_Action.f
      rw [if_neg c7, if_neg c8]
def chgB (kind : Int) (tcp : Bool) : Bool := if kind = 3 then true else if kind = 4 then true else if kind = 5 then true else if kind = 7 then true else if kind = 8 then true else if kind = 6 then !tcp else false
theorem changes_at (k : Nat) (kind : Int) (tgt : ByteArray) (wild : Bool) (rs : List S43) (tcp : Bool) (hk : 0 < k) : reply_Changes.f k kind tgt wild rs tcp = some (chgB kind tcp) := by
  obtain ⟨k, rfl⟩ : ∃ m, k = m + 1 := ⟨k - 1, by omega⟩
  unfold reply_Changes.f chgB
  simp only [reply_Changes.j0]
  by_cases c3 : kind = 3
  · rw [if_pos c3, if_pos c3, if_pos (by rw [beq_iff_eq]; exact c3)]
  rw [if_neg c3, if_neg c3]
  by_cases c4 : kind = 4
  · rw [if_pos c4, if_pos c4, if_pos (by rw [beq_iff_eq]; exact c4)]
  rw [if_neg c4, if_neg c4]
  by_cases c5 : kind = 5
  · rw [if_pos c5, if_pos c5, if_pos (by rw [beq_iff_eq]; exact c5)]
  rw [if_neg c5, if_neg c5]
  by_cases c7 : kind = 7
  · rw [if_pos c7, if_pos c7, if_pos (by rw [beq_iff_eq]; exact c7)]
  rw [if_neg c7, if_neg c7]
  by_cases c8 : kind = 8
  · rw [if_pos c8, if_pos (by rw [beq_iff_eq]; exact c8)]
  rw [if_neg c8, if_neg (by rw [beq_iff_eq]; exact c8)]
  by_cases c6 : kind = 6
  · rw [if_pos c6, if_pos c6]
  · rw [if_neg c6, if_neg c6]

/-! ### the reply -/
theorem base_same (q : Ms) (code : Int) : baseL q code = baseM q code := by
  unfold baseL baseM
  rw [code16, mn_comm]
theorem pass_same (q u : Ms) : passL q u = passM q u := by unfold passL passM; rw [base_same]
theorem want_same (q u : Ms) (kind : Int) (tcp : Bool) (goal : ByteArray × Bool) (loc : List S43) : wantR q u kind tcp goal loc = (ofR q u kind tcp goal loc).1 := by
  have e2 : ({ baseM q 0 with code := 2 } : Ms) = baseM q 2 := by
    unfold baseM
    rw [and15 2]
    rfl
  unfold wantR ofR
  rw [base_same, pass_same]
  by_cases c3 : kind = 3
  · rw [if_pos c3, if_pos c3]
  rw [if_neg c3, if_neg c3]
  by_cases c4 : kind = 4
  · rw [if_pos c4, if_pos c4]
  rw [if_neg c4, if_neg c4]
  by_cases c5 : kind = 5
  · rw [if_pos c5, if_pos c5]
  rw [if_neg c5, if_neg c5]
  by_cases c6 : kind = 6
  · rw [if_pos c6, if_pos c6]
    cases tcp <;> rfl
  rw [if_neg c6, if_neg c6]
  by_cases c7 : kind = 7
  · rw [if_pos c7, if_pos c7]
    cases goal.2
    · exact e2
    · rfl
  rw [if_neg c7, if_neg c7]
  by_cases c8 : kind = 8
  · rw [if_pos c8, if_pos c8]
  rw [if_neg c8, if_neg c8]
theorem of_ok (q u : Ms) (kind : Int) (tcp : Bool) (goal : ByteArray × Bool) (loc : List S43) : (ofR q u kind tcp goal loc).2 = !(kind == 3) := by
  unfold ofR
  by_cases c3 : kind = 3
  · rw [if_pos c3, beq_iff_eq.2 c3]; rfl
  rw [if_neg c3, beq_eq_false_iff_ne.2 c3]
  by_cases c4 : kind = 4
  · rw [if_pos c4]; rfl
  rw [if_neg c4]
  by_cases c5 : kind = 5
  · rw [if_pos c5]; rfl
  rw [if_neg c5]
  by_cases c6 : kind = 6
  · rw [if_pos c6]; cases tcp <;> rfl
  rw [if_neg c6]
  by_cases c7 : kind = 7
  · rw [if_pos c7]; cases goal.2 <;> rfl
  rw [if_neg c7]
  by_cases c8 : kind = 8
  · rw [if_pos c8]; rfl
  rw [if_neg c8]; rfl
/-- An action that changes the answer takes nothing of it. -/
theorem of_changes (q u o : Ms) (kind : Int) (tcp : Bool) (goal : ByteArray × Bool) (loc : List S43) (h : chgB kind tcp = true) :
    ofR q u kind tcp goal loc = ofR q o kind tcp goal loc ∧ (ofR q u kind tcp goal loc).1.aut.length = 0 ∧ (ofR q u kind tcp goal loc).1.ext.length = 0 ∧ ((ofR q u kind tcp goal loc).1.ans.length = 0 ∨ kind = 7 ∨ kind = 8) := by
  unfold chgB at h
  unfold ofR
  by_cases c3 : kind = 3
  · simp only [if_pos c3]; exact ⟨trivial, rfl, rfl, .inl rfl⟩
  rw [if_neg c3] at h
  simp only [if_neg c3]
  by_cases c4 : kind = 4
  · simp only [if_pos c4]; exact ⟨trivial, rfl, rfl, .inl rfl⟩
  rw [if_neg c4] at h
  simp only [if_neg c4]
  by_cases c5 : kind = 5
  · simp only [if_pos c5]; exact ⟨trivial, rfl, rfl, .inl rfl⟩
  rw [if_neg c5] at h
  simp only [if_neg c5]
  by_cases c7 : kind = 7
  · simp only [if_neg (show ¬ kind = 6 by omega), if_pos c7]
    refine ⟨trivial, ?_, ?_, .inr (.inl c7)⟩ <;> cases goal.2 <;> rfl
  rw [if_neg c7] at h
  by_cases c8 : kind = 8
  · simp only [if_neg (show ¬ kind = 6 by omega), if_neg c7, if_pos c8]
    exact ⟨trivial, rfl, rfl, .inr (.inr c8)⟩
  rw [if_neg c8] at h
  by_cases c6 : kind = 6
  · rw [if_pos c6] at h
    have ht : tcp = false := by simpa using h
    subst ht
    simp only [if_pos c6, if_neg Bool.false_ne_true]
    exact ⟨trivial, rfl, rfl, .inl rfl⟩
  · rw [if_neg c6] at h
    exact absurd h Bool.false_ne_true
theorem of_same (q u : Ms) (kind : Int) (tcp : Bool) (goal : ByteArray × Bool) (loc : List S43) (h : chgB kind tcp = false) : (ofR q u kind tcp goal loc).1.ans = u.ans := by
  unfold chgB at h
  unfold ofR
  by_cases c3 : kind = 3
  · rw [if_pos c3] at h; exact absurd h (by decide)
  rw [if_neg c3] at h ⊢
  by_cases c4 : kind = 4
  · rw [if_pos c4] at h; exact absurd h (by decide)
  rw [if_neg c4] at h ⊢
  by_cases c5 : kind = 5
  · rw [if_pos c5] at h; exact absurd h (by decide)
  rw [if_neg c5] at h ⊢
  by_cases c7 : kind = 7
  · rw [if_pos c7] at h; exact absurd h (by decide)
  rw [if_neg c7] at h
  by_cases c8 : kind = 8
  · rw [if_pos c8] at h; exact absurd h (by decide)
  rw [if_neg c8] at h
  by_cases c6 : kind = 6
  · rw [if_pos c6] at h
    have ht : tcp = true := by simpa using h
    subst ht
    rw [if_pos c6, if_pos rfl]
    rfl
  · rw [if_neg c6, if_neg c7, if_neg c8]
    rfl
/-- The lists of a reply are none longer than what came in. -/
theorem of_len (q u : Ms) (kind : Int) (tcp : Bool) (goal : ByteArray × Bool) (loc : List S43) (h1 : u.ans.length ≤ 140737488351232) (h2 : u.aut.length ≤ 140737488351232) (h3 : u.ext.length ≤ 140737488351232) (h4 : loc.length ≤ 140737488351232) :
    (ofR q u kind tcp goal loc).1.ans.length ≤ 140737488351232 ∧ (ofR q u kind tcp goal loc).1.aut.length ≤ 140737488351232 ∧ (ofR q u kind tcp goal loc).1.ext.length ≤ 140737488351232 := by
  have z : ([] : List S43).length ≤ 140737488351232 := by decide
  unfold ofR
  by_cases c3 : kind = 3
  · rw [if_pos c3]; exact ⟨z, z, z⟩
  rw [if_neg c3]
  by_cases c4 : kind = 4
  · rw [if_pos c4]; exact ⟨z, z, z⟩
  rw [if_neg c4]
  by_cases c5 : kind = 5
  · rw [if_pos c5]; exact ⟨z, z, z⟩
  rw [if_neg c5]
  by_cases c6 : kind = 6
  · rw [if_pos c6]
    cases tcp
    · exact ⟨z, z, z⟩
    · exact ⟨h1, h2, h3⟩
  rw [if_neg c6]
  by_cases c7 : kind = 7
  · rw [if_pos c7]
    cases goal.2
    · exact ⟨z, z, z⟩
    · exact ⟨by show ([_] : List S43).length ≤ _; simp, z, z⟩
  rw [if_neg c7]
  by_cases c8 : kind = 8
  · rw [if_pos c8]; exact ⟨h4, z, z⟩
  rw [if_neg c8]; exact ⟨h1, h2, h3⟩
theorem same_ev (m : Ms) (h1 : m.ans.length ≤ 140737488351232) (h2 : m.aut.length ≤ 140737488351232) (h3 : m.ext.length ≤ 140737488351232) : Ev (fun k => Ms.sameF k m m) true :=
  same_self m.id m.reply m.op m.auth m.cut m.des m.av m.code m.name m.type m.ans m.aut m.ext m.size h1 h2 h3
theorem goal_at (kind : Int) (tgt nm : ByteArray) (wild : Bool) (recs : List S43) : ∃ (goal : ByteArray × Bool) (K : Nat), ∀ k, K ≤ k → kind = 7 → action_Goal.f k kind tgt wild recs nm = some goal := by
  by_cases h : kind = 7
  · subst h
    obtain ⟨g, K, hK⟩ := goal_any tgt nm wild recs
    exact ⟨g, K, fun k hk _ => hK k hk⟩
  · exact ⟨(⟨#[]⟩, false), 0, fun k hk h7 => absurd h7 h⟩
theorem ReplyHides (q u o : Ms) (ck cw : Int) (ns : List Int) (crs : List S86) (tcp : Bool) (h0 : (Lit.int .u8 ck).wf = true) (h1 : (Lit.int .u8 cw).wf = true) (hl : ns.length * 1 ≤ 140737488351232) (hx : ∀ x ∈ ns, (Lit.int .u8 x).wf = true) (ha : ∀ a ∈ crs, ActOk a) (hal : crs.length ≤ 140737488351232)
    (u1 : u.ans.length * 40 ≤ 140737488351232) (u2 : u.aut.length * 40 ≤ 140737488351232) (u3 : u.ext.length * 40 ≤ 140737488351232) :
    ∃ (k : Nat) (kind : Int) (tgt : ByteArray) (wild : Bool) (recs : List S43) (goal : ByteArray × Bool) (loc : List S43) (m n : Ms) (ok chg : Bool),
      bolterlaw21_Choice_Action.f k ck cw ns crs = some (kind, tgt, wild, recs) ∧ (kind = 7 → action_Goal.f k kind tgt wild recs q.name = some goal) ∧ (kind = 8 → reply_local.f k kind tgt wild recs q.name q.type = some loc) ∧
      ofR q u kind tcp goal loc = (m, ok) ∧ ofR q o kind tcp goal loc = (n, ok) ∧ ok = !(kind == 3) ∧ reply_Changes.f k kind tgt wild recs tcp = some chg ∧
      (chg = true → Ms.sameF k m n = some true ∧ m.aut.length = 0 ∧ m.ext.length = 0 ∧ (m.ans.length = 0 ∨ kind = 7 ∨ kind = 8)) ∧ (chg = false → bolterlaw05_SameRecords.f k m.ans u.ans = some true) := by
  obtain ⟨kind, tgt, wild, recs, r1, K1, hA⟩ := action_ev ck cw ns crs h0 h1 hl hx ha hal
  obtain ⟨goal, K2, hG⟩ := goal_at kind tgt q.name wild recs
  have hloc := locOf_len q.name q.type recs
  obtain ⟨b1, b2, b3⟩ := of_len q u kind tcp goal (locOf q.name q.type recs) (by omega) (by omega) (by omega) (by omega)
  obtain ⟨K3, hS⟩ := same_ev (ofR q u kind tcp goal (locOf q.name q.type recs)).1 b1 b2 b3
  obtain ⟨K4, hR⟩ := recs_ev u.ans u.ans (by omega)
  dsimp only at hA hS hR
  refine ⟨K1 + K2 + K3 + K4 + 2000, kind, tgt, wild, recs, goal, locOf q.name q.type recs, (ofR q u kind tcp goal (locOf q.name q.type recs)).1, (ofR q o kind tcp goal (locOf q.name q.type recs)).1, (ofR q u kind tcp goal (locOf q.name q.type recs)).2, chgB kind tcp, hA _ (by omega), hG _ (by omega), fun _ => local_at _ _ _ _ _ _ _ (by omega) (by omega), rfl, ?_, of_ok .., changes_at _ _ _ _ _ _ (by omega), fun hc => ?_, fun hc => ?_⟩
  · rw [of_ok q u, ← of_ok q o kind tcp goal (locOf q.name q.type recs)]
  · obtain ⟨e, z1, z2, z3⟩ := of_changes q u o kind tcp goal (locOf q.name q.type recs) hc
    exact ⟨by rw [← e]; exact hS _ (by omega), z1, z2, z3⟩
  · rw [of_same q u kind tcp goal (locOf q.name q.type recs) hc, hR _ (by omega), eqRs_refl]
theorem ReplyOf (q u : Ms) (ck cw : Int) (ns : List Int) (crs : List S86) (ms : List Int) (tcp : Bool) (h0 : (Lit.int .u8 ck).wf = true) (h1 : (Lit.int .u8 cw).wf = true) (hl : ns.length * 1 ≤ 140737488351232) (hx : ∀ x ∈ ns, (Lit.int .u8 x).wf = true) (ha : ∀ a ∈ crs, ActOk a) (hal : crs.length ≤ 140737488351232)
    (hml : ms.length * 1 ≤ 140737488351232) (hmx : ∀ x ∈ ms, (Lit.int .u8 x).wf = true) (ty : Int)
    (u1 : u.ans.length * 40 ≤ 140737488351232) (u2 : u.aut.length * 40 ≤ 140737488351232) (u3 : u.ext.length * 40 ≤ 140737488351232) :
    ∃ (k : Nat) (kind : Int) (tgt : ByteArray) (wild : Bool) (recs : List S43) (goal : ByteArray × Bool) (nm : ByteArray) (m : Ms) (ok : Bool), recs.length ≤ 1000 ∧
      bolterlaw21_Choice_Action.f k ck cw ns crs = some (kind, tgt, wild, recs) ∧ bolterlaw02_Name.f k ms = some nm ∧
      (kind = 7 → action_Goal.f k kind tgt wild recs nm = some goal) ∧ (kind = 8 → reply_local.f k kind tgt wild recs nm ty = some (locOf nm ty recs)) ∧
      ofR ({ q with name := nm, type := ty } : Ms) u kind tcp goal (locOf nm ty recs) = (m, ok) ∧ ok = !(kind == 3) ∧ Ms.sameF k m (wantR ({ q with name := nm, type := ty } : Ms) u kind tcp goal (locOf nm ty recs)) = some true := by
  obtain ⟨kind, tgt, wild, recs, r1, K1, hA⟩ := action_ev ck cw ns crs h0 h1 hl hx ha hal
  obtain ⟨⟨K5, hN⟩, _⟩ := name_ev ms hml hmx
  generalize mkB (enc (lbs ms)) = nm at hN
  obtain ⟨goal, K2, hG⟩ := goal_at kind tgt nm wild recs
  have hloc := locOf_len nm ty recs
  obtain ⟨b1, b2, b3⟩ := of_len ({ q with name := nm, type := ty } : Ms) u kind tcp goal (locOf nm ty recs) (by omega) (by omega) (by omega) (by omega)
  obtain ⟨K3, hS⟩ := same_ev (ofR ({ q with name := nm, type := ty } : Ms) u kind tcp goal (locOf nm ty recs)).1 b1 b2 b3
  dsimp only at hA hS hN
  refine ⟨K1 + K2 + K3 + K5 + 2000, kind, tgt, wild, recs, goal, nm, (ofR ({ q with name := nm, type := ty } : Ms) u kind tcp goal (locOf nm ty recs)).1, (ofR ({ q with name := nm, type := ty } : Ms) u kind tcp goal (locOf nm ty recs)).2, by omega, hA _ (by omega), hN _ (by omega), hG _ (by omega), fun _ => local_at _ _ _ _ _ _ _ (by omega) (by omega), rfl, of_ok .., ?_⟩
  rw [want_same]
  exact hS _ (by omega)
end Go.Proofs.Ytdkjlbbbdjkhbaa.Pure

/- By hand: an argument of any kind (structs, slices, slices in structs) opened as a value that is read. -/
namespace Go.Proofs.Ytdkjlbbbdjkhbaa.OpenK
open Go.ChangeShapes Go.WideShapes Go.RowKit Go.Proofs.YtdkjlbbbdjkhbaaW.PrintWords
/-- A reading at type t gives a value of kind d, of which G holds, as long as nothing in it weighs more than memory bears. -/
def Opens {α : Type} (P : Program) (d : Kd α) (G : α → Prop) (t : TypeId) : Prop :=
  d.sz = P.cellsOf t ∧ ∀ (H : Type) (enc : TypeId × Value → H) (w : World) (base : Nat) (spare : Nat → Bool) (held : Bool) (fuel : Nat) (cs : List Value) (x : DataW H × List MemPlace),
    DataW.trod enc P w base spare held fuel t cs = some x → (∀ m ∈ x.1.weights P t, m ≤ reachBytes) → ∃ v, d.K w v cs ∧ G v
theorem Opens.int {P : Program} {t : TypeId} {k : IntKind} {G : Int → Prop} (ht : P.underlying t = some (.int k)) (hc : P.cellsOf t = 1) (hG : ∀ n, (Lit.int k n).wf = true → G n) : Opens P (Kd.int k) G t := by
  refine ⟨hc.symm, fun H enc w base spare held fuel cs x hx hw => ?_⟩
  obtain ⟨n, rfl, rfl, h⟩ := DataW.trod_int ht hx
  exact ⟨n, rfl, hG n h⟩
theorem Opens.bool {P : Program} {t : TypeId} (ht : P.underlying t = some .bool) (hc : P.cellsOf t = 1) : Opens P Kd.bool (fun _ => True) t := by
  refine ⟨hc.symm, fun H enc w base spare held fuel cs x hx hw => ?_⟩
  obtain ⟨n, rfl, rfl⟩ := DataW.trod_bool ht hx
  exact ⟨n, rfl, trivial⟩
theorem Opens.string {P : Program} {t : TypeId} (ht : P.underlying t = some .string) (hc : P.cellsOf t = 1) : Opens P Kd.string (fun s => s.size ≤ reachBytes) t := by
  refine ⟨hc.symm, fun H enc w base spare held fuel cs x hx hw => ?_⟩
  obtain ⟨n, rfl, rfl, h⟩ := DataW.trod_string ht hx
  refine ⟨n, rfl, ?_⟩
  have := hw n.data.toList.length (by simp [DataW.weights])
  rw [Array.length_toList] at this
  exact this
theorem gather {α : Type} (z : α) (Q : Nat → α → Prop) : ∀ n, (∀ i, i < n → ∃ v, Q i v) → ∃ l : List α, l.length = n ∧ ∀ i, i < n → Q i (l.getD i z)
  | 0, _ => ⟨[], rfl, fun i hi => absurd hi (Nat.not_lt_zero i)⟩
  | n + 1, h => by
    obtain ⟨l, hl, hq⟩ := gather z Q n (fun i hi => h i (Nat.lt_succ_of_lt hi))
    obtain ⟨v, hv⟩ := h n (Nat.lt_succ_self n)
    refine ⟨l ++ [v], by simp [hl], fun i hi => ?_⟩
    rcases Nat.lt_or_ge i n with h1 | h1
    · have := hq i h1
      rwa [List.getD_eq_getElem?_getD, List.getElem?_append_left (by omega), ← List.getD_eq_getElem?_getD]
    · have e : i = n := by omega
      subst e
      rw [List.getD_eq_getElem?_getD, List.getElem?_append_right (by omega), hl]
      simpa using hv
theorem add_add (a : Addr) (m j : Nat) : (a.add m).add j = a.add (m + j) := by
  unfold Addr.add
  by_cases hm : m = 0
  · subst hm; simp
  · by_cases hj : j = 0
    · simp [hm, hj]
    · have h : ¬ m + j = 0 := by omega
      simp [hm, hj, Nat.add_assoc]
theorem weightsAll_mem {H : Type} {P : Program} {e : TypeId} : ∀ {l : List (DataW H)} {d : DataW H}, d ∈ l → ∀ m ∈ d.weights P e, m ∈ DataW.weightsAll P e l
  | [], _, h, _, _ => by cases h
  | a :: r, d, h, m, hm => by
    rw [DataW.weightsAll, List.mem_append]
    rcases List.mem_cons.1 h with rfl | h'
    · exact .inl hm
    · exact .inr (weightsAll_mem h' m hm)
theorem Opens.slice {α : Type} {P : Program} {d : Kd α} {G : α → Prop} {t e : TypeId} (h : Opens P d G e) (ht : P.underlying t = some (.slice e)) (hc : P.cellsOf t = 1) (z : α) :
    Opens P (Kd.slice e d) (fun l => l.length * P.bytesOf e ≤ reachBytes ∧ ∀ y ∈ l, G y) t := by
  refine ⟨hc.symm, fun H enc w base spare held fuel cs x hx hw => ?_⟩
  rcases DataW.trod_slice ht hx with ⟨rfl, rfl⟩ | ⟨a, len, cap, elems, rest, n, _, rfl, rfl, hb, hl, hm, hlen, hel, _, _⟩
  · exact ⟨[], ⟨none, 0, rfl, Nat.le_refl _, ⟨rfl, by simp, fun h => absurd h (by simp)⟩⟩, by simp, by simp⟩
  · have each : ∀ i, i < len → ∃ v, (∃ c, c.length = d.sz ∧ d.K w v c ∧ ∀ j u, c[j]? = some u → w.cell? (a.add (i * d.sz + j)) = some u) ∧ G v := by
      intro i hi
      have h1 := hel i hi
      have hi' : i < elems.length := by omega
      rw [List.getElem?_eq_getElem hi', Option.bind_eq_some_iff] at h1
      obtain ⟨cs', hcs, hy⟩ := h1
      obtain ⟨_, hlen', hcell⟩ := World.cells?_some hcs
      obtain ⟨v, hK, hG⟩ := h.2 H enc w base spare held n cs' _ hy (fun m hm' => hw m (by
        rw [DataW.weights, ht]
        refine List.mem_cons_of_mem _ (List.mem_append_left _ (weightsAll_mem (List.mem_map.2 ⟨_, List.getElem_mem hi', rfl⟩) m hm'))))
      refine ⟨v, ⟨cs', d.K_len hK, hK, fun j u hj => ?_⟩, hG⟩
      have hj' : j < cs'.length := (List.getElem?_eq_some_iff.1 hj).1
      have h2 := hcell j (by omega)
      rw [h.1]
      have e1 : (a.add (i * P.cellsOf e)).add j = a.add (i * P.cellsOf e + j) := add_add a _ _
      rw [← e1, h2, hj]
    obtain ⟨l, hll, hq⟩ := gather z _ len each
    refine ⟨l, ⟨some a, cap, by rw [hll], by omega, hll.symm ▸ ⟨hll, by unfold maxLen at hm; omega, fun _ => ⟨a, rfl, fun j p hj => ?_⟩⟩⟩, ?_, ?_⟩
    · obtain ⟨hj1, hj2⟩ := List.getElem?_eq_some_iff.1 hj
      have := (hq j (by omega)).1
      rw [List.getD_eq_getElem?_getD, hj] at this
      exact this
    · have := hw ((elems.length + rest.length) * P.bytesOf e) (by rw [DataW.weights, ht]; simp)
      exact Nat.le_trans (Nat.mul_le_mul_right _ (by omega)) this
    · intro y hy
      obtain ⟨i, hi⟩ := List.getElem?_of_mem hy
      have hi2 := (List.getElem?_eq_some_iff.1 hi).1
      have := (hq i (by omega)).2
      rw [List.getD_eq_getElem?_getD, hi] at this
      exact this
/-- The fields from a place on. -/
def OpensFs {α : Type} (P : Program) (d : Kd α) (G : α → Prop) (fs : List Field) (off : Nat) : Prop :=
  ∀ (H : Type) (enc : TypeId × Value → H) (w : World) (base : Nat) (spare : Nat → Bool) (held : Bool) (n : Nat) (cs : List Value) (xs : List (DataW H × List MemPlace)),
    cs.length = off + d.sz → xs.length = fs.length → (∀ (i : Nat) (f : Field), fs[i]? = some f → DataW.trod enc P w base spare held n f.type ((cs.drop f.offset).take (P.cellsOf f.type)) = xs[i]?) →
    (∀ m ∈ DataW.weightsEach P (fs.map (·.type)) (xs.map (·.1)), m ≤ reachBytes) → ∃ v, d.K w v (cs.drop off) ∧ G v
theorem OpensFs.one {α : Type} {P : Program} {d : Kd α} {G : α → Prop} {f : Field} {off : Nat} (ho : f.offset = off) (h : Opens P d G f.type) : OpensFs P d G [f] off := by
  intro H enc w base spare held n cs xs hl hx hf hw
  match xs, hx with
  | [x], _ =>
    have h1 := hf 0 f rfl
    rw [ho, List.take_of_length_le (by rw [List.length_drop, ← h.1]; omega)] at h1
    refine h.2 H enc w base spare held n _ x h1 (fun m hm => hw m ?_)
    simp only [List.map_cons, List.map_nil, DataW.weightsEach, List.append_nil]
    exact hm
theorem OpensFs.cons {α β : Type} {P : Program} {d1 : Kd α} {d2 : Kd β} {G1 : α → Prop} {G2 : β → Prop} {f : Field} {fs : List Field} {off : Nat} (ho : f.offset = off) (h1 : Opens P d1 G1 f.type) (h2 : OpensFs P d2 G2 fs (off + d1.sz)) :
    OpensFs P (Kd.pair d1 d2) (fun p => G1 p.1 ∧ G2 p.2) (f :: fs) off := by
  intro H enc w base spare held n cs xs hl hx hf hw
  match xs, hx with
  | x :: xs, hx =>
    have hl' : cs.length = off + (d1.sz + d2.sz) := hl
    simp only [List.map_cons, DataW.weightsEach] at hw
    have a1 := hf 0 f rfl
    rw [ho] at a1
    obtain ⟨v1, k1, g1⟩ := h1.2 H enc w base spare held n _ x a1 (fun m hm => hw m (List.mem_append_left _ hm))
    obtain ⟨v2, k2, g2⟩ := h2 H enc w base spare held n cs xs (by omega) (by simpa using hx) (fun i g hg => hf (i + 1) g hg) (fun m hm => hw m (List.mem_append_right _ hm))
    refine ⟨(v1, v2), ⟨(cs.drop off).take (P.cellsOf f.type), cs.drop (off + d1.sz), ?_, k1, k2⟩, g1, g2⟩
    rw [h1.1, ← List.drop_drop, List.take_append_drop]
theorem Opens.struct {α β : Type} {P : Program} {d : Kd α} {G : α → Prop} {t : TypeId} {fs : Array Field} (f : β → α) (g : α → β) (hfg : ∀ y, f (g y) = y) (ht : P.underlying t = some (.struct fs)) (hc : P.cellsOf t = d.sz) (h : OpensFs P d G fs.toList 0) :
    Opens P (Kd.iso d f) (fun s => G (f s)) t := by
  refine ⟨hc.symm, fun H enc w base spare held fuel cs x hx hw => ?_⟩
  obtain ⟨xs, n, _, rfl, hl, hxl, hf⟩ := DataW.trod_struct ht hx
  obtain ⟨v, hK, hG⟩ := h H enc w base spare held n cs xs (by omega) (by rw [hxl, Array.length_toList]) (fun i f' hf' => hf i f' (by simpa using hf')) (fun m hm => hw m (by rw [DataW.weights, ht]; exact hm))
  exact ⟨g v, by show d.K w (f (g v)) cs; rw [hfg]; exact hK, by show G (f (g v)); rw [hfg]; exact hG⟩
/-- An argument. -/
theorem Opens.arg {α : Type} {P : Program} {d : Kd α} {G : α → Prop} {t : TypeId} (h : Opens P d G t) {H : Type} {enc : TypeId × Value → H} {W : World} {base : Nat} {spare : Nat → Bool} {held : Bool} {v : Value} {y : DataW H} {p : List MemPlace}
    {ts : List TypeId} {ds : List (DataW H)} {j : Nat} (hsz : (DataW.weightsEach P ts ds).all (· ≤ reachBytes) = true) (ht : ts[j]? = some t) (hd : ds[j]? = some y) (hv : DataW.Trod enc P W base spare held t v y p) : ∃ x, d.K W x v.cells.toList ∧ G x := by
  obtain ⟨fuel, hf⟩ := hv
  exact h.2 H enc W base spare held fuel _ _ hf (fun m hm => by
    have := List.all_eq_true.1 hsz _ (DataW.weights_mem_each ht hd m hm)
    simpa using this)
end Go.Proofs.Ytdkjlbbbdjkhbaa.OpenK

/- By hand: messages, actions, records as arguments. -/
namespace Go.Proofs.Ytdkjlbbbdjkhbaa.OpenK
open Go.ChangeShapes Go.WideShapes Go.RowKit Go.Proofs.YtdkjlbbbdjkhbaaW.PrintWords Go.Proofs.Ytdkjlbbbdjkhbaa.PAll

theorem Opens.structOf {α : Type} {P : Program} {d : Kd α} {G : α → Prop} {t : TypeId} {fs : Array Field} (ht : P.underlying t = some (.struct fs)) (hc : P.cellsOf t = d.sz) (h : OpensFs P d G fs.toList 0) : Opens P d G t :=
  Opens.struct (fun x => x) (fun x => x) (fun _ => rfl) ht hc h
def InI64 (n : Int) : Prop := -9223372036854775808 ≤ n ∧ n ≤ 9223372036854775807
def InU (m n : Int) : Prop := 0 ≤ n ∧ n ≤ m
theorem i64_of {n : Int} (h : (Lit.int .i64 n).wf = true) : InI64 n := by
  simp [Lit.wf, IntKind.min, IntKind.max, IntKind.bits, IntKind.signed] at h
  unfold InI64; omega
theorem u8_of {n : Int} (h : (Lit.int .u8 n).wf = true) : InU 255 n := by
  simp [Lit.wf, IntKind.min, IntKind.max, IntKind.bits, IntKind.signed] at h
  unfold InU; omega
theorem u16_of {n : Int} (h : (Lit.int .u16 n).wf = true) : InU 65535 n := by
  simp [Lit.wf, IntKind.min, IntKind.max, IntKind.bits, IntKind.signed] at h
  unfold InU; omega
theorem u32_of {n : Int} (h : (Lit.int .u32 n).wf = true) : InU 4294967295 n := by
  simp [Lit.wf, IntKind.min, IntKind.max, IntKind.bits, IntKind.signed] at h
  unfold InU; omega
theorem o3 : Opens Try.prog (Kd.int .i64) InI64 3 := .int Try.underlying3 (by kernel_rfl) (fun _ => i64_of)
theorem o4 : Opens Try.prog Kd.bool (fun _ => True) 4 := .bool Try.underlying4 (by kernel_rfl)
theorem o5 : Opens Try.prog (Kd.int .u8) (InU 255) 5 := .int Try.underlying5 (by kernel_rfl) (fun _ => u8_of)
theorem o9 : Opens Try.prog Kd.string (fun s => s.size ≤ reachBytes) 9 := .string Try.underlying9 (by kernel_rfl)
theorem o25 : Opens Try.prog Kd.string (fun s => s.size ≤ reachBytes) 25 := .string Try.underlying25 (by kernel_rfl)
theorem o39 : Opens Try.prog (Kd.int .u16) (InU 65535) 39 := .int Try.underlying39 (by kernel_rfl) (fun _ => u16_of)
theorem o40 : Opens Try.prog (Kd.int .u16) (InU 65535) 40 := .int Try.underlying40 (by kernel_rfl) (fun _ => u16_of)
theorem o41 : Opens Try.prog (Kd.int .u32) (InU 4294967295) 41 := .int Try.underlying41 (by kernel_rfl) (fun _ => u32_of)
abbrev RecG (r : S43) : Prop := r.f0.size ≤ reachBytes ∧ InU 65535 r.f1 ∧ InU 4294967295 r.f2 ∧ r.f3.size ≤ reachBytes
theorem o43 : Opens Try.prog k43 RecG 43 :=
  Opens.struct (fun x : S43 => (x.f0, x.f1, x.f2, x.f3)) (fun y => ⟨y.1, y.2.1, y.2.2.1, y.2.2.2⟩) (fun _ => rfl) Try.underlying43 (by kernel_rfl)
    (.cons rfl o25 (.cons rfl o40 (.cons rfl o41 (.one rfl o9))))
abbrev RecsG (l : List S43) : Prop := l.length * 40 ≤ reachBytes ∧ ∀ r ∈ l, RecG r
theorem bytes43 : Try.prog.bytesOf 43 = 40 := by kernel_rfl
theorem o26 : Opens Try.prog (Kd.slice 43 k43) RecsG 26 := by
  have h := Opens.slice o43 Try.underlying26 (by kernel_rfl) z43
  rw [bytes43] at h
  exact h
abbrev kHdr : Kd (Int × Bool × Int × Bool × Bool × Bool × Bool × Int) := Kd.pair (Kd.int .u16) (Kd.pair Kd.bool (Kd.pair (Kd.int .i64) (Kd.pair Kd.bool (Kd.pair Kd.bool (Kd.pair Kd.bool (Kd.pair Kd.bool (Kd.int .i64)))))))
abbrev HdrG (h : Int × Bool × Int × Bool × Bool × Bool × Bool × Int) : Prop := InU 65535 h.1 ∧ True ∧ InI64 h.2.2.1 ∧ True ∧ True ∧ True ∧ True ∧ InI64 h.2.2.2.2.2.2.2
theorem o54 : Opens Try.prog kHdr HdrG 54 := by
  have h := Opens.structOf (d := kHdr) Try.underlying54 (by kernel_rfl) (.cons rfl o39 (.cons rfl o4 (.cons rfl o3 (.cons rfl o4 (.cons rfl o4 (.cons rfl o4 (.cons rfl o4 (.one rfl o3))))))))
  exact h
abbrev kQst : Kd (ByteArray × Int) := Kd.pair Kd.string (Kd.int .u16)
abbrev QstG (q : ByteArray × Int) : Prop := q.1.size ≤ reachBytes ∧ InU 65535 q.2
theorem o56 : Opens Try.prog kQst QstG 56 := by
  have h := Opens.structOf (d := kQst) Try.underlying56 (by kernel_rfl) (.cons rfl o25 (.one rfl o40))
  exact h
abbrev kRecs : Kd (List S43) := Kd.slice 43 k43
abbrev kMsg : Kd ((Int × Bool × Int × Bool × Bool × Bool × Bool × Int) × (ByteArray × Int) × List S43 × List S43 × List S43 × Int) := Kd.pair kHdr (Kd.pair kQst (Kd.pair kRecs (Kd.pair kRecs (Kd.pair kRecs (Kd.int .i64)))))
abbrev MsgG (m : (Int × Bool × Int × Bool × Bool × Bool × Bool × Int) × (ByteArray × Int) × List S43 × List S43 × List S43 × Int) : Prop := HdrG m.1 ∧ QstG m.2.1 ∧ RecsG m.2.2.1 ∧ RecsG m.2.2.2.1 ∧ RecsG m.2.2.2.2.1 ∧ InI64 m.2.2.2.2.2
theorem o58 : Opens Try.prog kMsg MsgG 58 := by
  have h := Opens.structOf (d := kMsg) Try.underlying58 (by kernel_rfl) (.cons rfl o54 (.cons rfl o56 (.cons rfl o26 (.cons rfl o26 (.cons rfl o26 (.one rfl o3))))))
  exact h
/-- What is known of a message that comes in. -/
structure MsgIs (W : World) (v : Value) (m : (Int × Bool × Int × Bool × Bool × Bool × Bool × Int) × (ByteArray × Int) × List S43 × List S43 × List S43 × Int) : Prop where
  val : ∃ A0 c0 A1 c1 A2 c2, v = .agg #[.int .u16 m.1.1, .bool m.1.2.1, .int .i64 m.1.2.2.1, .bool m.1.2.2.2.1, .bool m.1.2.2.2.2.1, .bool m.1.2.2.2.2.2.1, .bool m.1.2.2.2.2.2.2.1, .int .i64 m.1.2.2.2.2.2.2.2, .string m.2.1.1, .int .u16 m.2.1.2, .slice A0 m.2.2.1.length c0, .slice A1 m.2.2.2.1.length c1, .slice A2 m.2.2.2.2.1.length c2, .int .i64 m.2.2.2.2.2] ∧
    Kd.C k43 W A0 m.2.2.1.length m.2.2.1 ∧ m.2.2.1.length ≤ c0 ∧ Kd.C k43 W A1 m.2.2.2.1.length m.2.2.2.1 ∧ m.2.2.2.1.length ≤ c1 ∧ Kd.C k43 W A2 m.2.2.2.2.1.length m.2.2.2.2.1 ∧ m.2.2.2.2.1.length ≤ c2
  id : InU 65535 m.1.1
  op : InI64 m.1.2.2.1
  code : InI64 m.1.2.2.2.2.2.2.2
  nm : m.2.1.1.size ≤ reachBytes
  ty : InU 65535 m.2.1.2
  r0 : RecsG m.2.2.1
  r1 : RecsG m.2.2.2.1
  r2 : RecsG m.2.2.2.2.1
  sz : InI64 m.2.2.2.2.2
theorem msg_open {W : World} {m} {cs : List Value} (h : kMsg.K W m cs) : ∃ A0 c0 A1 c1 A2 c2, cs = [.int .u16 m.1.1, .bool m.1.2.1, .int .i64 m.1.2.2.1, .bool m.1.2.2.2.1, .bool m.1.2.2.2.2.1, .bool m.1.2.2.2.2.2.1, .bool m.1.2.2.2.2.2.2.1, .int .i64 m.1.2.2.2.2.2.2.2, .string m.2.1.1, .int .u16 m.2.1.2, .slice A0 m.2.2.1.length c0, .slice A1 m.2.2.2.1.length c1, .slice A2 m.2.2.2.2.1.length c2, .int .i64 m.2.2.2.2.2] ∧
    Kd.C k43 W A0 m.2.2.1.length m.2.2.1 ∧ m.2.2.1.length ≤ c0 ∧ Kd.C k43 W A1 m.2.2.2.1.length m.2.2.2.1 ∧ m.2.2.2.1.length ≤ c1 ∧ Kd.C k43 W A2 m.2.2.2.2.1.length m.2.2.2.2.1 ∧ m.2.2.2.2.1.length ≤ c2 := by
  obtain ⟨_, _, rfl, ⟨_, _, rfl, h0, _, _, rfl, h1, _, _, rfl, h2, _, _, rfl, h3, _, _, rfl, h4, _, _, rfl, h5, _, _, rfl, h6, h7⟩, _, _, rfl, ⟨_, _, rfl, h8, h9⟩, _, _, rfl, ⟨A0, c0, rfl, l0, r0⟩, _, _, rfl, ⟨A1, c1, rfl, l1, r1⟩, _, _, rfl, ⟨A2, c2, rfl, l2, r2⟩, h13⟩ := h
  rw [show _ = [Value.int .u16 m.1.1] from h0, show _ = [Value.bool m.1.2.1] from h1, show _ = [Value.int .i64 m.1.2.2.1] from h2, show _ = [Value.bool m.1.2.2.2.1] from h3, show _ = [Value.bool m.1.2.2.2.2.1] from h4, show _ = [Value.bool m.1.2.2.2.2.2.1] from h5, show _ = [Value.bool m.1.2.2.2.2.2.2.1] from h6, show _ = [Value.int .i64 m.1.2.2.2.2.2.2.2] from h7,
    show _ = [Value.string m.2.1.1] from h8, show _ = [Value.int .u16 m.2.1.2] from h9, show _ = [Value.int .i64 m.2.2.2.2.2] from h13]
  exact ⟨A0, c0, A1, c1, A2, c2, rfl, r0, l0, r1, l1, r2, l2⟩
theorem msg_arg {H : Type} {enc : TypeId × Value → H} {W : World} {r : Reach} {base b0 : Nat} {spare : Nat → Bool} {held : Bool} {v : Value} {y : DataW H} {p : List MemPlace} {ts : List TypeId} {ds : List (DataW H)} {j : Nat}
    (hsz : (DataW.weightsEach Try.prog ts ds).all (· ≤ reachBytes) = true) (ht : ts[j]? = some 58) (hd : ds[j]? = some y) (hk : Value.okWide Try.prog W r b0 58 v) (hv : DataW.Trod enc Try.prog W base spare held 58 v y p) : ∃ m, MsgIs W v m := by
  obtain ⟨cs, rfl, _⟩ := okWide_struct Try.underlying58 hk
  obtain ⟨m, hK, g⟩ := o58.arg hsz ht hd hv
  obtain ⟨A0, c0, A1, c1, A2, c2, e, hh⟩ := msg_open hK
  obtain ⟨⟨g0, _, g2, _, _, _, _, g7⟩, ⟨g8, g9⟩, g10, g11, g12, g13⟩ := g
  refine ⟨m, ⟨⟨A0, c0, A1, c1, A2, c2, ?_, hh⟩, g0, g2, g7, g8, g9, g10, g11, g12, g13⟩⟩
  have e' : cs.toList = _ := e
  cases cs
  exact congrArg (fun l => Value.agg ⟨l⟩) e'
end Go.Proofs.Ytdkjlbbbdjkhbaa.OpenK

/- By hand: slices of numbers, of records, and of what records are made of, as arguments; a choice. -/
namespace Go.Proofs.Ytdkjlbbbdjkhbaa.OpenK
open Go.ChangeShapes Go.WideShapes Go.RowKit Go.Proofs.YtdkjlbbbdjkhbaaW.PrintWords Go.Proofs.Ytdkjlbbbdjkhbaa.PAll
theorem o5w : Opens Try.prog (Kd.int .u8) (fun n => (Lit.int .u8 n).wf = true) 5 := .int Try.underlying5 (by kernel_rfl) (fun _ h => h)
abbrev BytesG (l : List Int) : Prop := l.length * 1 ≤ 140737488351232 ∧ ∀ x ∈ l, (Lit.int .u8 x).wf = true
theorem bytes5 : Try.prog.bytesOf 5 = 1 := by kernel_rfl
theorem o22 : Opens Try.prog (Kd.slice 5 (Kd.int .u8)) BytesG 22 := by
  have h := Opens.slice o5w Try.underlying22 (by kernel_rfl) (0 : Int)
  rw [bytes5] at h
  exact h
abbrev ActG (a : S86) : Prop := BytesG a.f0 ∧ (Lit.int .u8 a.f1).wf = true ∧ InU 4294967295 a.f2 ∧ BytesG a.f3 ∧ a.f4.size ≤ reachBytes
theorem o86 : Opens Try.prog k86 ActG 86 :=
  Opens.struct (fun x : S86 => (x.f0, x.f1, x.f2, x.f3, x.f4)) (fun y => ⟨y.1, y.2.1, y.2.2.1, y.2.2.2.1, y.2.2.2.2⟩) (fun _ => rfl) Try.underlying86 (by kernel_rfl)
    (.cons rfl o22 (.cons rfl o5w (.cons rfl o41 (.cons rfl o22 (.one rfl o9)))))
theorem ActG.ok {a : S86} (h : ActG a) : ActA.ActOk a := ⟨h.1.1, h.1.2, h.2.2.2.1.1, h.2.2.2.1.2⟩
abbrev ActsG (l : List S86) : Prop := l.length ≤ 140737488351232 ∧ ∀ a ∈ l, ActG a
theorem bytes86 : 1 ≤ Try.prog.bytesOf 86 := by rw [show Try.prog.bytesOf 86 = 72 by kernel_rfl]; decide
theorem Opens.imp {α : Type} {P : Program} {d : Kd α} {G G' : α → Prop} {t : TypeId} (h : Opens P d G t) (hg : ∀ x, G x → G' x) : Opens P d G' t :=
  ⟨h.1, fun H enc w base spare held fuel cs x hx hw => by obtain ⟨v, h1, h2⟩ := h.2 H enc w base spare held fuel cs x hx hw; exact ⟨v, h1, hg v h2⟩⟩
theorem o36 : Opens Try.prog (Kd.slice 86 k86) ActsG 36 :=
  (Opens.slice o86 Try.underlying36 (by kernel_rfl) z86).imp (fun l h => ⟨by
    have h1 := h.1
    have h2 := Nat.mul_le_mul_left l.length bytes86
    rw [Nat.mul_one] at h2
    exact Nat.le_trans h2 h1, h.2⟩)
theorem ActsG.ok {l : List S86} (h : ActsG l) : ∀ a ∈ l, ActA.ActOk a := fun a ha => ActG.ok (h.2 a ha)
theorem slice_arg {P : Program} {α : Type} {d : Kd α} {G : List α → Prop} {t e : TypeId} (ho : Opens P (Kd.slice e d) G t) (hu : P.underlying t = some (.slice e)) {H : Type} {enc : TypeId × Value → H} {W : World} {r : Reach} {base b0 : Nat} {spare : Nat → Bool} {held : Bool} {v : Value} {y : DataW H} {p : List MemPlace} {ts : List TypeId} {ds : List (DataW H)} {j : Nat}
    (hsz : (DataW.weightsEach P ts ds).all (· ≤ reachBytes) = true) (ht : ts[j]? = some t) (hd : ds[j]? = some y) (hk : Value.okWide P W r b0 t v) (hv : DataW.Trod enc P W base spare held t v y p) :
    ∃ (A : Option Addr) (c : Nat) (l : List α), v = .slice A l.length c ∧ Kd.C d W A l.length l ∧ l.length ≤ c ∧ G l := by
  obtain ⟨a0, len, cap, rfl⟩ := okWide_slice hu hk
  obtain ⟨l, hK, g⟩ := ho.arg hsz ht hd hv
  obtain ⟨A, c, he, hl, hC⟩ := hK
  have he' : [Value.slice a0 len cap] = [Value.slice A l.length c] := he
  exact ⟨A, c, l, List.head_eq_of_cons_eq he', hC, hl, g⟩
/-- A choice: kind, how, names, records. -/
abbrev kChoice : Kd (Int × Int × List Int × List S86) := Kd.pair (Kd.int .u8) (Kd.pair (Kd.int .u8) (Kd.pair (Kd.slice 5 (Kd.int .u8)) (Kd.slice 86 k86)))
abbrev ChoiceG (c : Int × Int × List Int × List S86) : Prop := (Lit.int .u8 c.1).wf = true ∧ (Lit.int .u8 c.2.1).wf = true ∧ BytesG c.2.2.1 ∧ ActsG c.2.2.2
theorem o64 : Opens Try.prog kChoice ChoiceG 64 := by
  have h := Opens.structOf (d := kChoice) Try.underlying64 (by kernel_rfl) (.cons rfl o5w (.cons rfl o5w (.cons rfl o22 (.one rfl o36))))
  exact h
structure ChoiceIs (W : World) (v : Value) (c : Int × Int × List Int × List S86) : Prop where
  val : ∃ A0 c0 A1 c1, v = .agg #[.int .u8 c.1, .int .u8 c.2.1, .slice A0 c.2.2.1.length c0, .slice A1 c.2.2.2.length c1] ∧ Kd.C (Kd.int .u8) W A0 c.2.2.1.length c.2.2.1 ∧ c.2.2.1.length ≤ c0 ∧ Kd.C k86 W A1 c.2.2.2.length c.2.2.2 ∧ c.2.2.2.length ≤ c1
  is : ChoiceG c
theorem choice_arg {H : Type} {enc : TypeId × Value → H} {W : World} {r : Reach} {base b0 : Nat} {spare : Nat → Bool} {held : Bool} {v : Value} {y : DataW H} {p : List MemPlace} {ts : List TypeId} {ds : List (DataW H)} {j : Nat}
    (hsz : (DataW.weightsEach Try.prog ts ds).all (· ≤ reachBytes) = true) (ht : ts[j]? = some 64) (hd : ds[j]? = some y) (hk : Value.okWide Try.prog W r b0 64 v) (hv : DataW.Trod enc Try.prog W base spare held 64 v y p) : ∃ c, ChoiceIs W v c := by
  obtain ⟨cs, rfl, _⟩ := okWide_struct Try.underlying64 hk
  obtain ⟨c, hK, g⟩ := o64.arg hsz ht hd hv
  obtain ⟨_, _, e, h0, _, _, rfl, h1, _, _, rfl, ⟨A0, c0, rfl, l0, r0⟩, ⟨A1, c1, rfl, l1, r1⟩⟩ := hK
  rw [show _ = [Value.int .u8 c.1] from h0, show _ = [Value.int .u8 c.2.1] from h1] at e
  refine ⟨c, ⟨A0, c0, A1, c1, ?_, r0, l0, r1, l1⟩, g⟩
  have e' : cs.toList = _ := e
  cases cs
  exact congrArg (fun l => Value.agg ⟨l⟩) e'
end Go.Proofs.Ytdkjlbbbdjkhbaa.OpenK

/- Where an action changes the answer nothing of what upstream answered is in it: for every query, answers and choice. -/
namespace Go.Proofs.Ytdkjlbbbdjkhbaa.replyHides
open Go.ChangeShapes Go.WideShapes Go.ChangeAt Go.RowKit
open Go.ChangeMaps (open_string shut_string)
theorem own : ownKnob Try.prog.godebug = none := by kernel_rfl
theorem laidOut : laidOutB Try.prog = true := by kernel_rfl
set_option maxRecDepth 100000 in
theorem lifted (os : Os) (started : os.Started) (H : Type) (enc : TypeId × Value → H) :
    ReturnsInHanded {} Try.checked os 10 .any (Rows.replyHidesSpec.pre6 enc Try.prog Try.f10 Rows.replyHidesRow.domain false) (Rows.replyHidesSpec.post enc Try.prog Try.f10 false true false false) := by
  refine returnsInHanded_of_change_sized (C := Try.checked) own started (by kernel_rfl) Try.func10
    (ChangeSpec.witness6 (enc := enc) (C := Try.checked) false ⟨#[], #[.agg #[.int .u16 0, .bool false, .int .i64 0, .bool false, .bool false, .bool false, .bool false, .int .i64 0, .string ByteArray.empty, .int .u16 0, .slice none 0 0, .slice none 0 0, .slice none 0 0, .int .i64 0], .agg #[.int .u16 0, .bool false, .int .i64 0, .bool false, .bool false, .bool false, .bool false, .int .i64 0, .string ByteArray.empty, .int .u16 0, .slice none 0 0, .slice none 0 0, .slice none 0 0, .int .i64 0], .agg #[.int .u16 0, .bool false, .int .i64 0, .bool false, .bool false, .bool false, .bool false, .int .i64 0, .string ByteArray.empty, .int .u16 0, .slice none 0 0, .slice none 0 0, .slice none 0 0, .int .i64 0], .agg #[.int .u8 0, .int .u8 0, .slice none 0 0, .slice none 0 0], .bool false], []⟩ 8 (by kernel_rfl) (by kernel_rfl) (by kernel_rfl) (by kernel_rfl)) ?_
  intro W base args ds gs before hval0 hW hcnd hsz0 _
  have hsz : (DataW.weightsEach Try.prog (Try.f10.params.toList ++ Rows.replyHidesSpec.plain.varTypes Try.prog) (ds ++ gs)).all (· ≤ reachBytes) = true := hsz0
  have hval : ∀ (j : Nat) t v, Try.f10.params[j]? = some t → args[j]? = some v → Value.okWide Try.prog W .any base t v := hval0
  have hW' := hW
  obtain ⟨p, q, hA0, hV, rfl, hfz, hnd⟩ := hW
  have hA : DataW.TrodAll enc Try.prog W 0 (fun _ => true) true Try.f10.params.toList args.toList ds p := hA0
  rw [Try.params10] at hA hval hsz
  obtain ⟨v0, vs0, d0, ds0, p0, q0, hargs, rfl, rfl, h0, r0⟩ := trodAll_cons hA
  obtain ⟨v1, vs1, d1, ds1, p1, q1, rfl, rfl, rfl, h1, r1⟩ := trodAll_cons r0
  obtain ⟨v2, vs2, d2, ds2, p2, q2, rfl, rfl, rfl, h2, r2⟩ := trodAll_cons r1
  obtain ⟨v3, vs3, d3, ds3, p3, q3, rfl, rfl, rfl, h3, r3⟩ := trodAll_cons r2
  obtain ⟨v4, vs4, d4, ds4, p4, q4, rfl, rfl, rfl, h4, r4⟩ := trodAll_cons r3
  obtain ⟨rfl, rfl, rfl⟩ := trodAll_nil r4
  obtain rfl : args = #[v0, v1, v2, v3, v4] := by cases args; simp_all
  obtain ⟨rfl, rfl⟩ := trodVars_none hV
  have k0 := h0
  have lt0 : ∀ x ∈ p0, x.block < W.heap.size := by obtain ⟨m, hm⟩ := k0; exact DataW.trod_lt m _ _ _ hm
  have k1 := h1
  have lt1 : ∀ x ∈ p1, x.block < W.heap.size := by obtain ⟨m, hm⟩ := k1; exact DataW.trod_lt m _ _ _ hm
  have k2 := h2
  have lt2 : ∀ x ∈ p2, x.block < W.heap.size := by obtain ⟨m, hm⟩ := k2; exact DataW.trod_lt m _ _ _ hm
  have k3 := h3
  have lt3 : ∀ x ∈ p3, x.block < W.heap.size := by obtain ⟨m, hm⟩ := k3; exact DataW.trod_lt m _ _ _ hm
  have k4 := h4
  have lt4 : ∀ x ∈ p4, x.block < W.heap.size := by obtain ⟨m, hm⟩ := k4; exact DataW.trod_lt m _ _ _ hm
  obtain ⟨m0, M0⟩ := OpenK.msg_arg hsz (j := 0) rfl rfl (hval 0 58 v0 rfl rfl) h0
  obtain ⟨A0_0, c0_0, A0_1, c0_1, A0_2, c0_2, rfl, R0_0, L0_0, R0_1, L0_1, R0_2, L0_2⟩ := M0.val
  obtain ⟨m1, M1⟩ := OpenK.msg_arg hsz (j := 1) rfl rfl (hval 1 58 v1 rfl rfl) h1
  obtain ⟨A1_0, c1_0, A1_1, c1_1, A1_2, c1_2, rfl, R1_0, L1_0, R1_1, L1_1, R1_2, L1_2⟩ := M1.val
  obtain ⟨m2, M2⟩ := OpenK.msg_arg hsz (j := 2) rfl rfl (hval 2 58 v2 rfl rfl) h2
  obtain ⟨A2_0, c2_0, A2_1, c2_1, A2_2, c2_2, rfl, R2_0, L2_0, R2_1, L2_1, R2_2, L2_2⟩ := M2.val
  obtain ⟨c3, C3⟩ := OpenK.choice_arg hsz (j := 3) rfl rfl (hval 3 64 v3 rfl rfl) h3
  obtain ⟨A3_0, c3_0, A3_1, c3_1, rfl, R3_0, L3_0, R3_1, L3_1⟩ := C3.val
  obtain ⟨a4, rfl, rfl, rfl⟩ := open_bool Try.underlying4 (hval 4 4 v4 rfl rfl) h4
  clear hA0 hval0 hsz0 hsz
  obtain ⟨k, kind, tgt, wild, recs, goal, loc, m, n, ok, chg, e2, e3, e4, e5, e6, e7, e8, e9, e10⟩ := Pure.ReplyHides (Pure.toMs m0) (Pure.toMs m1) (Pure.toMs m2) c3.1 c3.2.1 c3.2.2.1 c3.2.2.2 a4 C3.is.1 C3.is.2.1 C3.is.2.2.1.1 C3.is.2.2.1.2 (OpenK.ActsG.ok C3.is.2.2.2) C3.is.2.2.2.1 M1.r0.1 M1.r1.1 M1.r2.1
  refine (Hand.hides_any k (Pure.toMs m0) (Pure.toMs m1) (Pure.toMs m2) _ _ _ _ _ _ _ _ _ c3.1 c3.2.1 A3_0 c3_0 c3.2.2.1 A3_1 c3_1 c3.2.2.2 a4 kind tgt wild recs goal loc m n ok chg W ⟨A0_0, c0_0, rfl, L0_0, R0_0⟩ ⟨A0_1, c0_1, rfl, L0_1, R0_1⟩ ⟨A0_2, c0_2, rfl, L0_2, R0_2⟩ ⟨A1_0, c1_0, rfl, L1_0, R1_0⟩ ⟨A1_1, c1_1, rfl, L1_1, R1_1⟩ ⟨A1_2, c1_2, rfl, L1_2, R1_2⟩ ⟨A2_0, c2_0, rfl, L2_0, R2_0⟩ ⟨A2_1, c2_1, rfl, L2_1, R2_1⟩ ⟨A2_2, c2_2, rfl, L2_2, R2_2⟩ R3_0 L3_0 R3_1 L3_1 (Pure.short M1.r0.1) (Pure.short M1.r1.1) (Pure.short M1.r2.1) (Pure.short M2.r0.1) (Pure.short M2.r1.1) (Pure.short M2.r2.1) e2 e3 e4 e5 e6 e7 e8 e9 e10).mono fun e W' ⟨he, bel⟩ => ?_
  subst he
  exact ⟨_, rfl, _, _, _, [], _, [], hW', trodAll_mk1 (shut_bool Try.underlying4 _), (trodAll_cons_mk (Below.trod laidOut (by kernel_rfl) (of_decide_eq_true (by kernel_rfl)) k0 bel lt0) (trodAll_cons_mk (Below.trod laidOut (by kernel_rfl) (of_decide_eq_true (by kernel_rfl)) k1 bel lt1) (trodAll_cons_mk (Below.trod laidOut (by kernel_rfl) (of_decide_eq_true (by kernel_rfl)) k2 bel lt2) (trodAll_cons_mk (Below.trod laidOut (by kernel_rfl) (of_decide_eq_true (by kernel_rfl)) k3 bel lt3) (trodAll_cons_mk (Below.trod laidOut (by kernel_rfl) (of_decide_eq_true (by kernel_rfl)) k4 bel lt4) trodAll_mk0))))), rfl, bel.frame _, fun h => by cases h⟩
theorem over : Rows.replyHidesRow.holds Try.pinned (OpenSpec.ofChange Rows.replyHidesSpec) :=
  OpenClaim.holds_of_wide 10 Try.f10 rfl rfl rfl rfl rfl rfl rfl ⟨rfl, rfl, rfl, rfl, rfl⟩ rfl rfl rfl rfl rfl (by kernel_rfl) Try.func10 (by kernel_rfl)
    (of_decide_eq_true (by kernel_rfl)) (by unfold Func.isWrapper; first | (rw [if_pos (by decide +kernel)]; kernel_rfl) | (rw [if_neg (by decide +kernel)]; exact ⟨rfl, rfl⟩))
    (fun os started H enc _ => lifted os started H enc)
theorem proved : Rows.ReplyHidesSaid := over
#print axioms proved
end Go.Proofs.Ytdkjlbbbdjkhbaa.replyHides
namespace Go.Proofs.Ytdkjlbbbdjkhbaa
/-- The row, under a short name, for the claim. -/
theorem replyHides_holds : Rows.ReplyHidesSaid := replyHides.proved
end Go.Proofs.Ytdkjlbbbdjkhbaa
