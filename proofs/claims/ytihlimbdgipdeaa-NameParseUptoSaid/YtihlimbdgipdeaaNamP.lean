-- By hand: a name's text, and what is read of a text, in plain lists.
import Derived.Test.YtihlimbdgipdeaaPParx21
import Derived.Test.YtihlimbdgipdeaaNamK
set_option linter.unusedVariables false
namespace Go.Proofs.Ytihlimbdgipdeaa.NamL
open Go.RowKit Go.Proofs.Ytihlimbdgipdeaa.PPar Go.Proofs.Ytihlimbdgipdeaa.PNam Go.Proofs.Ytihlimbdgipdeaa.PBase0 Go.Proofs.Ytihlimbdgipdeaa.Hand Go.Proofs.YtihlimbdgipdeaaW.PrintWords Go.Proofs.YtihlimbdgipdeaaW.PrintLast

theorem mkB_append (a b : List UInt8) : mkB a ++ mkB b = mkB (a ++ b) := B_inj (by rw [B_append, B_mkB, B_mkB, B_mkB])
theorem plainI_iff (c : Int) : plainI c = true ↔ ((97 ≤ c ∧ c ≤ 122) ∨ (48 ≤ c ∧ c ≤ 57) ∨ c = 45 ∨ c = 95 ∨ c = 42) := by
  unfold plainI name_plain.f
  repeat' split
  all_goals simp
  all_goals omega
theorem strOfNums_mk (ns : List Int) : strOfNums ns = mkB (ns.map fun n => UInt8.ofNat n.toNat) := rfl

theorem escL_cons (c : UInt8) (l : List UInt8) : escL (c :: l) = escB c ++ escL l := by simp [escL]
theorem escL_append (a b : List UInt8) : escL (a ++ b) = escL a ++ escL b := by simp [escL]
theorem escB_plain {c : UInt8} (h : plainI (c.toNat : Int) = true) : escB c = [c] := by unfold escB; rw [if_pos h]
theorem escB_esc {c : UInt8} (h : ¬ plainI (c.toNat : Int) = true) : escB c = [92, UInt8.ofNat (48 + c.toNat / 100), UInt8.ofNat (48 + c.toNat / 10 % 10), UInt8.ofNat (48 + c.toNat % 10)] := by unfold escB; rw [if_neg h]
theorem textB_cons (l : ByteArray) (ls : List ByteArray) : textB (l :: ls) = escL (B l) ++ [46] ++ textB ls := by simp [textB, B]
theorem escL_le (l : List UInt8) : (escL l).length ≤ 4 * l.length := by
  induction l with
  | nil => simp [escL]
  | cons c l ih => rw [escL_cons, List.length_append, List.length_cons]; have := escB_le c; omega

/-! ### the law's text -/
theorem text_inner (x : ByteArray) (ls : List ByteArray) (n j : Int) (j2 : Int) (hj : wrap64 (j + 1) = j2) (res : Option ByteArray) (K : Nat) (T : List UInt8) (hT : T.length ≤ 1000000000) (hx : x.size ≤ 1000000000)
    (hres : ∀ k, K ≤ k → bolterlaw02_text.l0 k (mkB T) ls n j2 = res) (d : Nat) :
    ∀ (k i : Nat) (acc : List UInt8), x.size = i + d → K + d < k → T = acc ++ escL ((B x).drop i) ++ [46] → bolterlaw02_text.l1 k (mkB acc) x i ls n j = res := by
  induction d with
  | zero =>
    intro k i acc hd hk hT2
    obtain ⟨k, rfl⟩ : ∃ m, k = m + 1 := ⟨k - 1, by omega⟩
    rw [List.drop_of_length_le (by rw [B_length]; omega)] at hT2
    have e2 : T = acc ++ [46] := by rw [hT2]; simp [escL]
    have hlen : acc.length + 1 = T.length := by rw [e2]; simp
    rw [bolterlaw02_text.l1, if_neg (by omega), if_pos (by rw [mkB_size]; omega), hj, show (⟨#[46]⟩ : ByteArray) = mkB [46] from rfl, mkB_append, ← e2]
    exact hres k (by omega)
  | succ d ih =>
    intro k i acc hd hk hT2
    obtain ⟨k, rfl⟩ : ∃ m, k = m + 1 := ⟨k - 1, by omega⟩
    have hi : i < (B x).length := by rw [B_length]; omega
    have hb := bt_B x i hi
    have hw : wrap64 ((i : Int) + 1) = ((i + 1 : Nat) : Int) := by rw [w64 (by omega) (by omega)]; omega
    have hex : x.extract ((i : Int)).toNat (((i + 1 : Nat) : Int)).toNat = mkB [(B x)[i]] := B_inj (by
      rw [B_extract, B_mkB, Int.toNat_natCast, Int.toNat_natCast, show i + 1 - i = 1 by omega, List.drop_eq_getElem_cons hi]
      rfl)
    rw [List.drop_eq_getElem_cons hi, escL_cons] at hT2
    have hc255 := ((B x)[i]).toNat_lt
    have hlen : acc.length + (escB (B x)[i]).length ≤ T.length := by rw [hT2]; simp
    have hpos := escB_pos (B x)[i]
    have step : bolterlaw02_text.l1 k (mkB (acc ++ escB (B x)[i])) x (((i + 1 : Nat) : Int)) ls n j = res := ih k (i + 1) _ (by omega) (by omega) (by rw [hT2]; simp)
    generalize (B x)[i] = c at hb hex hT2 hlen hpos step hc255
    have g1 : (i : Int) < (x.size : Int) := by omega
    have g2 : (0 : Int) ≤ (i : Int) := by omega
    have g3 : (i : Int) ≤ ((i + 1 : Nat) : Int) := by omega
    have g4 : ((i + 1 : Nat) : Int) ≤ (x.size : Int) := by omega
    have g5 : (mkB acc).size + (mkB [c]).size ≤ 9223372036854775807 := by rw [mkB_size, mkB_size]; simp; omega
    have g6 : (mkB acc).size + 1 ≤ 9223372036854775807 := by rw [mkB_size]; omega
    rw [bolterlaw02_text.l1, if_pos g1, if_pos g2, hw, hex, hb]
    simp only [if_pos g3, if_pos g4, if_pos g5, if_pos g6, Option.bind_some]
    by_cases hp : plainI (c.toNat : Int) = true
    · rw [escB_plain hp, ← mkB_append] at step
      rw [step]
      have hq := (plainI_iff _).1 hp
      clear step hT2 hres ih
      repeat' split
      all_goals first | rfl | (exfalso; omega)
    · have hq := (not_congr (plainI_iff _)).1 hp
      have hn : strOfNums [(48 + ((Int.tdiv (c.toNat : Int) 100) % 256)) % 256, 48 + (((Int.tdiv (c.toNat : Int) 10) % 256) % 10), (48 + (Int.tmod (c.toNat : Int) 10)) % 256] = mkB [UInt8.ofNat (48 + c.toNat / 100), UInt8.ofNat (48 + c.toNat / 10 % 10), UInt8.ofNat (48 + c.toNat % 10)] := by
        rw [strOfNums_mk]
        have t1 : Int.tdiv (c.toNat : Int) 100 = ((c.toNat / 100 : Nat) : Int) := rfl
        have t2 : Int.tdiv (c.toNat : Int) 10 = ((c.toNat / 10 : Nat) : Int) := rfl
        have t3 : Int.tmod (c.toNat : Int) 10 = ((c.toNat % 10 : Nat) : Int) := rfl
        rw [t1, t2, t3]
        have q1 : ((48 + (((c.toNat / 100 : Nat) : Int) % 256)) % 256).toNat = 48 + c.toNat / 100 := by omega
        have q2 : (48 + ((((c.toNat / 10 : Nat) : Int) % 256) % 10)).toNat = 48 + c.toNat / 10 % 10 := by omega
        have q3 : ((48 + ((c.toNat % 10 : Nat) : Int)) % 256).toNat = 48 + c.toNat % 10 := by omega
        simp only [List.map_cons, List.map_nil, q1, q2, q3]
      have he := escB_esc hp
      have g7 : (mkB acc ++ (⟨#[92]⟩ : ByteArray)).size + (mkB [UInt8.ofNat (48 + c.toNat / 100), UInt8.ofNat (48 + c.toNat / 10 % 10), UInt8.ofNat (48 + c.toNat % 10)]).size ≤ 9223372036854775807 := by
        rw [show (⟨#[92]⟩ : ByteArray) = mkB [92] from rfl, mkB_append, mkB_size, mkB_size]; simp; omega
      have hcat : mkB acc ++ (⟨#[92]⟩ : ByteArray) ++ mkB [UInt8.ofNat (48 + c.toNat / 100), UInt8.ofNat (48 + c.toNat / 10 % 10), UInt8.ofNat (48 + c.toNat % 10)] = mkB (acc ++ escB c) := by
        rw [show (⟨#[92]⟩ : ByteArray) = mkB [92] from rfl, mkB_append, mkB_append, he, List.append_assoc]; rfl
      simp only [hn, if_pos g7, hcat, step]
      clear step hT2 hres ih hn g7 hcat he
      repeat' split
      all_goals first | rfl | (exfalso; omega)
theorem text_outer (ls : List ByteArray) (T : List UInt8) (hT : T.length ≤ 1000000000) (hl : ls.length ≤ 1000000000) : ∀ (d i : Nat) (acc : List UInt8), ls.length = i + d → T = acc ++ textB (ls.drop i) →
    ∃ K, ∀ k, K ≤ k → bolterlaw02_text.l0 k (mkB acc) ls (ls.length : Int) (i : Int) = some (if T = [] then mkB [46] else mkB T) := by
  intro d
  induction d with
  | zero =>
    intro i acc hd hT2
    rw [List.drop_of_length_le (by omega)] at hT2
    have e2 : T = acc := by rw [hT2]; simp [textB]
    refine ⟨1, fun k hk => ?_⟩
    obtain ⟨k, rfl⟩ : ∃ m, k = m + 1 := ⟨k - 1, by omega⟩
    rw [bolterlaw02_text.l0, if_neg (by omega), ← e2, toList_B, B_mkB]
    split <;> rfl
  | succ d ih =>
    intro i acc hd hT2
    have hi : i < ls.length := by omega
    rw [List.drop_eq_getElem_cons hi, textB_cons] at hT2
    have hlen : (escL (B ls[i])).length ≤ T.length := by rw [hT2]; simp; omega
    have hel := escL_length (B ls[i])
    obtain ⟨K, hK⟩ := ih (i + 1) (acc ++ escL (B ls[i]) ++ [46]) (by omega) (by rw [hT2]; simp)
    have hlen2 : (acc ++ escL (B ls[i]) ++ [46]).length ≤ T.length := by rw [hT2]; simp
    rw [B_length] at hel
    refine ⟨K + ls[i].size + 2, fun k hk => ?_⟩
    obtain ⟨k, rfl⟩ : ∃ m, k = m + 1 := ⟨k - 1, by omega⟩
    have hw : wrap64 ((i : Int) + 1) = ((i + 1 : Nat) : Int) := by rw [w64 (by omega) (by omega)]; omega
    have er : rdOf ByteArray.empty ls (i : Int) = ls[i] := by simp [rdOf, List.getD_eq_getElem?_getD, hi]
    rw [bolterlaw02_text.l0, if_pos (by omega), if_pos (by omega), if_pos (by omega), er]
    exact text_inner ls[i] ls _ (i : Int) _ hw _ K (acc ++ escL (B ls[i]) ++ [46]) (by omega) (by omega) (fun k hk => hK k hk) ls[i].size k 0 acc (by omega) (by omega) (by simp)
/-- How a name's labels are written. -/
def textOf (ls : Lb) : ByteArray := if ls = [] then mkB [46] else mkB (textB (ls.map mkB))
theorem textB_enc (ls : Lb) : (textB (ls.map mkB)).length ≤ 4 * (enc ls).length := by
  induction ls with
  | nil => simp [textB]
  | cons l ls ih =>
    rw [List.map_cons, textB_cons, enc_cons, List.length_append, List.length_append, List.length_append, encL_length, B_mkB]
    have := escL_le l
    simp; omega
theorem textB_nil {ls : List ByteArray} (h : textB ls = []) : ls = [] := by
  cases ls with
  | nil => rfl
  | cons l ls => rw [textB_cons] at h; simp at h
theorem law_text {s : ByteArray} {ls : Lb} (h : Nm s ls) : Ev (fun k => bolterlaw02_text.f k (ls.map mkB)) (textOf ls) := by
  have h1 := textB_enc ls
  have h2 := h.length
  have h3 := h.2.2.2
  have h4 := enc_length_le ls
  obtain ⟨K, hK⟩ := text_outer (ls.map mkB) (textB (ls.map mkB)) (by omega) (by rw [List.length_map]; omega) (ls.map mkB).length 0 [] (by omega) (by simp)
  refine ⟨K, fun k hk => ?_⟩
  unfold bolterlaw02_text.f
  refine (hK k hk).trans ?_
  congr 1
  unfold textOf
  by_cases c : ls = []
  · subst c; rfl
  · rw [if_neg c, if_neg (fun e => c (by simpa using textB_nil e))]
theorem name_text {s : ByteArray} {ls : Lb} (h : Nm s ls) : Ev (fun k => name_Text.f k s) (textOf ls) := by
  have h1 := textB_enc ls
  have h2 := h.length
  have h3 := h.2.2.2
  obtain ⟨K, hK⟩ := labels_yes h
  refine ⟨K, fun k hk => ?_⟩
  have hk2 : name_Labels.f k s = some (ls.map mkB, true) := hK k hk
  show name_Text.f k s = _
  unfold name_Text.f
  rw [hk2, Option.bind_some]
  dsimp only
  rw [if_pos rfl]
  unfold textOf
  by_cases c : ls = []
  · subst c; rfl
  · have : (ls.map mkB).length ≠ 0 := by rw [List.length_map]; exact fun e => c (List.eq_nil_of_length_eq_zero e)
    rw [if_neg this, if_pos (by omega), if_neg c]
    rfl
end Go.Proofs.Ytihlimbdgipdeaa.NamL
