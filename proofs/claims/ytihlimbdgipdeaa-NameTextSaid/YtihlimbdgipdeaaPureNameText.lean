-- By hand: names' texts, in plain lists (NamP, NamQ, NamR, and the law's own join in one text).
import Derived.Test.YtihlimbdgipdeaaPTexx21
import Derived.Test.YtihlimbdgipdeaaPParx21
import Derived.Test.YtihlimbdgipdeaaNamK
set_option linter.unusedVariables false
namespace Go.Proofs.Ytihlimbdgipdeaa.NamL
open Go.RowKit Go.Proofs.Ytihlimbdgipdeaa.PPar Go.Proofs.Ytihlimbdgipdeaa.PNam Go.Proofs.Ytihlimbdgipdeaa.PBase0 Go.Proofs.Ytihlimbdgipdeaa.Hand Go.Proofs.YtihlimbdgipdeaaW.PrintWords Go.Proofs.YtihlimbdgipdeaaW.PrintLast

theorem mkB_append (a b : List UInt8) : mkB a ++ mkB b = mkB (a ++ b) := B_inj (by rw [B_append, B_mkB, B_mkB, B_mkB])
theorem plainI_iff (c : Int) : plainI c = true ↔ ((97 ≤ c ∧ c ≤ 122) ∨ (48 ≤ c ∧ c ≤ 57) ∨ c = 45 ∨ c = 95 ∨ c = 42) := by
  unfold plainI name_plain.f
  repeat' split
  all_goals simp
  all_goals omega
theorem strOfNums_mk (ns : List Int) : strOfNums ns = mkB (ns.map fun n => UInt8.ofNat n.toNat) := rfl

theorem escL_cons (c : UInt8) (l : List UInt8) : escL (c :: l) = escB c ++ escL l := by simp [escL]
theorem escL_append (a b : List UInt8) : escL (a ++ b) = escL a ++ escL b := by simp [escL]
theorem escB_plain {c : UInt8} (h : plainI (c.toNat : Int) = true) : escB c = [c] := by unfold escB; rw [if_pos h]
theorem escB_esc {c : UInt8} (h : ¬ plainI (c.toNat : Int) = true) : escB c = [92, UInt8.ofNat (48 + c.toNat / 100), UInt8.ofNat (48 + c.toNat / 10 % 10), UInt8.ofNat (48 + c.toNat % 10)] := by unfold escB; rw [if_neg h]
theorem textB_cons (l : ByteArray) (ls : List ByteArray) : textB (l :: ls) = escL (B l) ++ [46] ++ textB ls := by simp [textB, B]
theorem escL_le (l : List UInt8) : (escL l).length ≤ 4 * l.length := by
  induction l with
  | nil => simp [escL]
  | cons c l ih => rw [escL_cons, List.length_append, List.length_cons]; have := escB_le c; omega

/-! ### the law's text -/
theorem text_inner (x : ByteArray) (ls : List ByteArray) (n j : Int) (j2 : Int) (hj : wrap64 (j + 1) = j2) (res : Option ByteArray) (K : Nat) (T : List UInt8) (hT : T.length ≤ 1000000000) (hx : x.size ≤ 1000000000)
    (hres : ∀ k, K ≤ k → bolterlaw02_text.l0 k (mkB T) ls n j2 = res) (d : Nat) :
    ∀ (k i : Nat) (acc : List UInt8), x.size = i + d → K + d < k → T = acc ++ escL ((B x).drop i) ++ [46] → bolterlaw02_text.l1 k (mkB acc) x i ls n j = res := by
  induction d with
  | zero =>
    intro k i acc hd hk hT2
    obtain ⟨k, rfl⟩ : ∃ m, k = m + 1 := ⟨k - 1, by omega⟩
    rw [List.drop_of_length_le (by rw [B_length]; omega)] at hT2
    have e2 : T = acc ++ [46] := by rw [hT2]; simp [escL]
    have hlen : acc.length + 1 = T.length := by rw [e2]; simp
    rw [bolterlaw02_text.l1, if_neg (by omega), if_pos (by rw [mkB_size]; omega), hj, show (⟨#[46]⟩ : ByteArray) = mkB [46] from rfl, mkB_append, ← e2]
    exact hres k (by omega)
  | succ d ih =>
    intro k i acc hd hk hT2
    obtain ⟨k, rfl⟩ : ∃ m, k = m + 1 := ⟨k - 1, by omega⟩
    have hi : i < (B x).length := by rw [B_length]; omega
    have hb := bt_B x i hi
    have hw : wrap64 ((i : Int) + 1) = ((i + 1 : Nat) : Int) := by rw [w64 (by omega) (by omega)]; omega
    have hex : x.extract ((i : Int)).toNat (((i + 1 : Nat) : Int)).toNat = mkB [(B x)[i]] := B_inj (by
      rw [B_extract, B_mkB, Int.toNat_natCast, Int.toNat_natCast, show i + 1 - i = 1 by omega, List.drop_eq_getElem_cons hi]
      rfl)
    rw [List.drop_eq_getElem_cons hi, escL_cons] at hT2
    have hc255 := ((B x)[i]).toNat_lt
    have hlen : acc.length + (escB (B x)[i]).length ≤ T.length := by rw [hT2]; simp
    have hpos := escB_pos (B x)[i]
    have step : bolterlaw02_text.l1 k (mkB (acc ++ escB (B x)[i])) x (((i + 1 : Nat) : Int)) ls n j = res := ih k (i + 1) _ (by omega) (by omega) (by rw [hT2]; simp)
    generalize (B x)[i] = c at hb hex hT2 hlen hpos step hc255
    have g1 : (i : Int) < (x.size : Int) := by omega
    have g2 : (0 : Int) ≤ (i : Int) := by omega
    have g3 : (i : Int) ≤ ((i + 1 : Nat) : Int) := by omega
    have g4 : ((i + 1 : Nat) : Int) ≤ (x.size : Int) := by omega
    have g5 : (mkB acc).size + (mkB [c]).size ≤ 9223372036854775807 := by rw [mkB_size, mkB_size]; simp; omega
    have g6 : (mkB acc).size + 1 ≤ 9223372036854775807 := by rw [mkB_size]; omega
    rw [bolterlaw02_text.l1, if_pos g1, if_pos g2, hw, hex, hb]
    simp only [if_pos g3, if_pos g4, if_pos g5, if_pos g6, Option.bind_some]
    by_cases hp : plainI (c.toNat : Int) = true
    · rw [escB_plain hp, ← mkB_append] at step
      rw [step]
      have hq := (plainI_iff _).1 hp
      clear step hT2 hres ih
      repeat' split
      all_goals first | rfl | (exfalso; omega)
    · have hq := (not_congr (plainI_iff _)).1 hp
      have hn : strOfNums [(48 + ((Int.tdiv (c.toNat : Int) 100) % 256)) % 256, 48 + (((Int.tdiv (c.toNat : Int) 10) % 256) % 10), (48 + (Int.tmod (c.toNat : Int) 10)) % 256] = mkB [UInt8.ofNat (48 + c.toNat / 100), UInt8.ofNat (48 + c.toNat / 10 % 10), UInt8.ofNat (48 + c.toNat % 10)] := by
        rw [strOfNums_mk]
        have t1 : Int.tdiv (c.toNat : Int) 100 = ((c.toNat / 100 : Nat) : Int) := rfl
        have t2 : Int.tdiv (c.toNat : Int) 10 = ((c.toNat / 10 : Nat) : Int) := rfl
        have t3 : Int.tmod (c.toNat : Int) 10 = ((c.toNat % 10 : Nat) : Int) := rfl
        rw [t1, t2, t3]
        have q1 : ((48 + (((c.toNat / 100 : Nat) : Int) % 256)) % 256).toNat = 48 + c.toNat / 100 := by omega
        have q2 : (48 + ((((c.toNat / 10 : Nat) : Int) % 256) % 10)).toNat = 48 + c.toNat / 10 % 10 := by omega
        have q3 : ((48 + ((c.toNat % 10 : Nat) : Int)) % 256).toNat = 48 + c.toNat % 10 := by omega
        simp only [List.map_cons, List.map_nil, q1, q2, q3]
      have he := escB_esc hp
      have g7 : (mkB acc ++ (⟨#[92]⟩ : ByteArray)).size + (mkB [UInt8.ofNat (48 + c.toNat / 100), UInt8.ofNat (48 + c.toNat / 10 % 10), UInt8.ofNat (48 + c.toNat % 10)]).size ≤ 9223372036854775807 := by
        rw [show (⟨#[92]⟩ : ByteArray) = mkB [92] from rfl, mkB_append, mkB_size, mkB_size]; simp; omega
      have hcat : mkB acc ++ (⟨#[92]⟩ : ByteArray) ++ mkB [UInt8.ofNat (48 + c.toNat / 100), UInt8.ofNat (48 + c.toNat / 10 % 10), UInt8.ofNat (48 + c.toNat % 10)] = mkB (acc ++ escB c) := by
        rw [show (⟨#[92]⟩ : ByteArray) = mkB [92] from rfl, mkB_append, mkB_append, he, List.append_assoc]; rfl
      simp only [hn, if_pos g7, hcat, step]
      clear step hT2 hres ih hn g7 hcat he
      repeat' split
      all_goals first | rfl | (exfalso; omega)
theorem text_outer (ls : List ByteArray) (T : List UInt8) (hT : T.length ≤ 1000000000) (hl : ls.length ≤ 1000000000) : ∀ (d i : Nat) (acc : List UInt8), ls.length = i + d → T = acc ++ textB (ls.drop i) →
    ∃ K, ∀ k, K ≤ k → bolterlaw02_text.l0 k (mkB acc) ls (ls.length : Int) (i : Int) = some (if T = [] then mkB [46] else mkB T) := by
  intro d
  induction d with
  | zero =>
    intro i acc hd hT2
    rw [List.drop_of_length_le (by omega)] at hT2
    have e2 : T = acc := by rw [hT2]; simp [textB]
    refine ⟨1, fun k hk => ?_⟩
    obtain ⟨k, rfl⟩ : ∃ m, k = m + 1 := ⟨k - 1, by omega⟩
    rw [bolterlaw02_text.l0, if_neg (by omega), ← e2, toList_B, B_mkB]
    split <;> rfl
  | succ d ih =>
    intro i acc hd hT2
    have hi : i < ls.length := by omega
    rw [List.drop_eq_getElem_cons hi, textB_cons] at hT2
    have hlen : (escL (B ls[i])).length ≤ T.length := by rw [hT2]; simp; omega
    have hel := escL_length (B ls[i])
    obtain ⟨K, hK⟩ := ih (i + 1) (acc ++ escL (B ls[i]) ++ [46]) (by omega) (by rw [hT2]; simp)
    have hlen2 : (acc ++ escL (B ls[i]) ++ [46]).length ≤ T.length := by rw [hT2]; simp
    rw [B_length] at hel
    refine ⟨K + ls[i].size + 2, fun k hk => ?_⟩
    obtain ⟨k, rfl⟩ : ∃ m, k = m + 1 := ⟨k - 1, by omega⟩
    have hw : wrap64 ((i : Int) + 1) = ((i + 1 : Nat) : Int) := by rw [w64 (by omega) (by omega)]; omega
    have er : rdOf ByteArray.empty ls (i : Int) = ls[i] := by simp [rdOf, List.getD_eq_getElem?_getD, hi]
    rw [bolterlaw02_text.l0, if_pos (by omega), if_pos (by omega), if_pos (by omega), er]
    exact text_inner ls[i] ls _ (i : Int) _ hw _ K (acc ++ escL (B ls[i]) ++ [46]) (by omega) (by omega) (fun k hk => hK k hk) ls[i].size k 0 acc (by omega) (by omega) (by simp)
/-- How a name's labels are written. -/
def textOf (ls : Lb) : ByteArray := if ls = [] then mkB [46] else mkB (textB (ls.map mkB))
theorem textB_enc (ls : Lb) : (textB (ls.map mkB)).length ≤ 4 * (enc ls).length := by
  induction ls with
  | nil => simp [textB]
  | cons l ls ih =>
    rw [List.map_cons, textB_cons, enc_cons, List.length_append, List.length_append, List.length_append, encL_length, B_mkB]
    have := escL_le l
    simp; omega
theorem textB_nil {ls : List ByteArray} (h : textB ls = []) : ls = [] := by
  cases ls with
  | nil => rfl
  | cons l ls => rw [textB_cons] at h; simp at h
theorem law_text {s : ByteArray} {ls : Lb} (h : Nm s ls) : Ev (fun k => bolterlaw02_text.f k (ls.map mkB)) (textOf ls) := by
  have h1 := textB_enc ls
  have h2 := h.length
  have h3 := h.2.2.2
  have h4 := enc_length_le ls
  obtain ⟨K, hK⟩ := text_outer (ls.map mkB) (textB (ls.map mkB)) (by omega) (by rw [List.length_map]; omega) (ls.map mkB).length 0 [] (by omega) (by simp)
  refine ⟨K, fun k hk => ?_⟩
  unfold bolterlaw02_text.f
  refine (hK k hk).trans ?_
  congr 1
  unfold textOf
  by_cases c : ls = []
  · subst c; rfl
  · rw [if_neg c, if_neg (fun e => c (by simpa using textB_nil e))]
theorem name_text {s : ByteArray} {ls : Lb} (h : Nm s ls) : Ev (fun k => name_Text.f k s) (textOf ls) := by
  have h1 := textB_enc ls
  have h2 := h.length
  have h3 := h.2.2.2
  obtain ⟨K, hK⟩ := labels_yes h
  refine ⟨K, fun k hk => ?_⟩
  have hk2 : name_Labels.f k s = some (ls.map mkB, true) := hK k hk
  show name_Text.f k s = _
  unfold name_Text.f
  rw [hk2, Option.bind_some]
  dsimp only
  rw [if_pos rfl]
  unfold textOf
  by_cases c : ls = []
  · subst c; rfl
  · have : (ls.map mkB).length ≠ 0 := by rw [List.length_map]; exact fun e => c (List.eq_nil_of_length_eq_zero e)
    rw [if_neg this, if_pos (by omega), if_neg c]
    rfl
end Go.Proofs.Ytihlimbdgipdeaa.NamL

namespace Go.Proofs.Ytihlimbdgipdeaa.NamL
open Go.RowKit Go.Proofs.Ytihlimbdgipdeaa.PPar Go.Proofs.Ytihlimbdgipdeaa.PNam Go.Proofs.Ytihlimbdgipdeaa.PBase0 Go.Proofs.Ytihlimbdgipdeaa.Hand Go.Proofs.YtihlimbdgipdeaaW.PrintWords Go.Proofs.YtihlimbdgipdeaaW.PrintLast

/-! ### Parse -/
theorem fold_f (c : Int) (h0 : 0 ≤ c) (h1 : c ≤ 255) : name_Fold.f c = some (if 65 ≤ c ∧ c ≤ 90 then c + 32 else c) := by
  unfold name_Fold.f
  split
  · split
    · rw [if_pos (by omega)]; congr 1; omega
    · rw [if_neg (by omega)]
  · rw [if_neg (by omega)]
def nums (l : List UInt8) : List Int := l.map fun b => (b.toNat : Int)
theorem nums_str (l : List UInt8) : strOfNums (nums l) = mkB l := by
  rw [strOfNums_mk]; unfold nums
  congr 1
  rw [List.map_map]
  conv => rhs; rw [← List.map_id l]
  apply List.map_congr_left
  intro c hc
  simp
theorem nums_append (a b : List UInt8) : nums (a ++ b) = nums a ++ nums b := by simp [nums]
theorem nums_length (a : List UInt8) : (nums a).length = a.length := by simp [nums]
/-- What is told of a text. -/
def Good (s : ByteArray) (r : ByteArray × Bool) : Prop := r = ((⟨#[]⟩ : ByteArray), false) ∨ ∃ n ms, r = (n, true) ∧ Nm n ms ∧ B s = B (textOf ms)
/-- The inner loop over three digits. -/
theorem digits (a0 : ByteArray) (x4 : List ByteArray) (x5 : List Int) (x6 : Int) (d1 d2 d3 : UInt8) :
    (∀ k, name_Parse.l1 (k + 4) a0 x4 x5 x6 0 [(d1.toNat : Int), (d2.toNat : Int), (d3.toNat : Int)] 3 0 = some ((⟨#[]⟩ : ByteArray), false)) ∨
       ∃ v : Nat, v ≤ 255 ∧ ¬ plainI (v : Int) = true ∧ ¬ (65 ≤ v ∧ v ≤ 90) ∧ d1.toNat = 48 + v / 100 ∧ d2.toNat = 48 + v / 10 % 10 ∧ d3.toNat = 48 + v % 10 ∧
        ∀ k, name_Parse.l1 (k + 4) a0 x4 x5 x6 0 [(d1.toNat : Int), (d2.toNat : Int), (d3.toNat : Int)] 3 0 = if x5.length < 140737488355328 then (name_Parse.l0 k a0 x4 (x5 ++ [(v : Int)]) (wrap64 ((wrap64 (x6 + 3)) + 1))) else none := by
  generalize d1.toNat = e1
  generalize d2.toNat = e2
  generalize d3.toNat = e3
  have r0 : rd [(e1 : Int), (e2 : Int), (e3 : Int)] 0 = e1 := rfl
  have r1 : rd [(e1 : Int), (e2 : Int), (e3 : Int)] 1 = e2 := rfl
  have r2 : rd [(e1 : Int), (e2 : Int), (e3 : Int)] 2 = e3 := rfl
  have lt : (([(e1 : Int), (e2 : Int), (e3 : Int)].length : Nat) : Int) = 3 := rfl
  have w1 : wrap64 ((0 : Int) + 1) = 1 := w64 (by decide) (by decide)
  have w2 : wrap64 ((1 : Int) + 1) = 2 := w64 (by decide) (by decide)
  have w3 : wrap64 ((2 : Int) + 1) = 3 := w64 (by decide) (by decide)
  generalize [(e1 : Int), (e2 : Int), (e3 : Int)] = ys at r0 r1 r2 lt
  have st : ∀ (k : Nat) (m : Int) (j : Int), 0 ≤ j → j < 3 → name_Parse.l1 (k + 1) a0 x4 x5 x6 m ys 3 j = if rd ys j < 48 then some ((⟨#[]⟩ : ByteArray), false) else if rd ys j > 57 then some ((⟨#[]⟩ : ByteArray), false) else name_Parse.l1 k a0 x4 x5 x6 (wrap64 ((wrap64 (m * 10)) + ((rd ys j - 48) % 256))) ys 3 (wrap64 (j + 1)) := by
    intro k m j h0 h1
    rw [name_Parse.l1, if_pos h1, if_pos h0, lt, if_pos h1]
  have s1 := fun k m => st k m 0 (by decide) (by decide)
  have s2 := fun k m => st k m 1 (by decide) (by decide)
  have s3 := fun k m => st k m 2 (by decide) (by decide)
  rw [r0, w1] at s1
  rw [r1, w2] at s2
  rw [r2, w3] at s3
  clear st r0 r1 r2 lt w1 w2 w3
  by_cases c1 : (e1 : Int) < 48
  · exact .inl fun k => by rw [s1, if_pos c1]
  by_cases c2 : (e1 : Int) > 57
  · exact .inl fun k => by rw [s1, if_neg c1, if_pos c2]
  obtain ⟨n1, rfl⟩ : ∃ n, e1 = 48 + n := ⟨e1 - 48, by omega⟩
  have q1 : (((48 + n1 : Nat) : Int) - 48) % 256 = (n1 : Int) := by omega
  have v1 : wrap64 ((wrap64 ((0 : Int) * 10)) + (n1 : Int)) = (n1 : Int) := by rw [w64 (n := (0 : Int) * 10) (by decide) (by decide), w64 (by omega) (by omega)]; omega
  by_cases c3 : (e2 : Int) < 48
  · exact .inl fun k => by rw [s1, if_neg c1, if_neg c2, q1, v1, s2, if_pos c3]
  by_cases c4 : (e2 : Int) > 57
  · exact .inl fun k => by rw [s1, if_neg c1, if_neg c2, q1, v1, s2, if_neg c3, if_pos c4]
  obtain ⟨n2, rfl⟩ : ∃ n, e2 = 48 + n := ⟨e2 - 48, by omega⟩
  have q2 : (((48 + n2 : Nat) : Int) - 48) % 256 = (n2 : Int) := by omega
  have v2 : wrap64 ((wrap64 ((n1 : Int) * 10)) + (n2 : Int)) = ((10 * n1 + n2 : Nat) : Int) := by rw [w64 (n := (n1 : Int) * 10) (by omega) (by omega), w64 (by omega) (by omega)]; omega
  by_cases c5 : (e3 : Int) < 48
  · exact .inl fun k => by rw [s1, if_neg c1, if_neg c2, q1, v1, s2, if_neg c3, if_neg c4, q2, v2, s3, if_pos c5]
  by_cases c6 : (e3 : Int) > 57
  · exact .inl fun k => by rw [s1, if_neg c1, if_neg c2, q1, v1, s2, if_neg c3, if_neg c4, q2, v2, s3, if_neg c5, if_pos c6]
  obtain ⟨n3, rfl⟩ : ∃ n, e3 = 48 + n := ⟨e3 - 48, by omega⟩
  have q3 : (((48 + n3 : Nat) : Int) - 48) % 256 = (n3 : Int) := by omega
  have v3 : wrap64 ((wrap64 (((10 * n1 + n2 : Nat) : Int) * 10)) + (n3 : Int)) = ((100 * n1 + 10 * n2 + n3 : Nat) : Int) := by rw [w64 (n := ((10 * n1 + n2 : Nat) : Int) * 10) (by omega) (by omega), w64 (by omega) (by omega)]; omega
  have all : ∀ k, name_Parse.l1 (k + 4) a0 x4 x5 x6 0 ys 3 0 = name_Parse.l1 (k + 1) a0 x4 x5 x6 ((100 * n1 + 10 * n2 + n3 : Nat) : Int) ys 3 3 := fun k => by
    rw [s1, if_neg c1, if_neg c2, q1, v1, s2, if_neg c3, if_neg c4, q2, v2, s3, if_neg c5, if_neg c6, q3, v3]
  have b1 : n1 ≤ 9 := by omega
  have b2 : n2 ≤ 9 := by omega
  have b3 : n3 ≤ 9 := by omega
  clear s1 s2 s3 q1 q2 q3 v1 v2 v3 c1 c2 c3 c4 c5 c6
  obtain ⟨v, hv⟩ : ∃ v : Nat, v = 100 * n1 + 10 * n2 + n3 := ⟨_, rfl⟩
  rw [← hv] at all
  have en : ∀ k, name_Parse.l1 (k + 1) a0 x4 x5 x6 (v : Int) ys 3 3 = if (v : Int) > 255 then some ((⟨#[]⟩ : ByteArray), false) else if plainI ((v : Int) % 256) = true then some ((⟨#[]⟩ : ByteArray), false) else (name_Fold.f ((v : Int) % 256)).bind fun t115 => if t115 = (v : Int) % 256 then (if x5.length < 140737488355328 then (name_Parse.l0 k a0 x4 (x5 ++ [(v : Int) % 256]) (wrap64 ((wrap64 (x6 + 3)) + 1))) else none) else some ((⟨#[]⟩ : ByteArray), false) := fun k => by
    rw [name_Parse.l1, if_neg (by decide), plain_eq, Option.bind_some]
  by_cases c7 : (v : Int) > 255
  · exact .inl fun k => by rw [all, en, if_pos c7]
  have hm : (v : Int) % 256 = v := by omega
  rw [hm] at en
  by_cases c8 : plainI (v : Int) = true
  · exact .inl fun k => by rw [all, en, if_neg c7, if_pos c8]
  have ff := fold_f (v : Int) (by omega) (by omega)
  by_cases c9 : 65 ≤ (v : Int) ∧ (v : Int) ≤ 90
  · exact .inl fun k => by rw [all, en, if_neg c7, if_neg c8, ff, Option.bind_some, if_pos c9, if_neg (by omega)]
  refine .inr ⟨v, by omega, c8, by omega, by omega, by omega, by omega, fun k => ?_⟩
  rw [all, en, if_neg c7, if_neg c8, ff, Option.bind_some, if_neg c9, if_pos rfl]
theorem wrap_34 (i : Nat) (h : i ≤ 1000000000) : wrap64 ((wrap64 ((i : Int) + 3)) + 1) = ((i + 4 : Nat) : Int) := by
  have h1 : wrap64 ((i : Int) + 3) = (i : Int) + 3 := w64 (by omega) (by omega)
  have h2 : wrap64 ((i : Int) + 3 + 1) = (i : Int) + 3 + 1 := w64 (by omega) (by omega)
  rw [h1, h2]; omega
theorem par_arith (n i d a b : Nat) (hs : n ≤ 1000000000) (hd : n = i + d) (h3 : i + 3 < n) (h1 : a ≤ i) (h2 : b ≤ i) : d - 4 < d ∧ n = i + 4 + (d - 4) ∧ a ≤ i + 4 ∧ b + 1 ≤ i + 4 ∧ b < 140737488355328 := by omega
theorem toNat_ofNat8 {v : Nat} (h : v ≤ 255) : (UInt8.ofNat v).toNat = v := by
  rw [UInt8.toNat_ofNat']
  omega
theorem escL_esc (l : List UInt8) {v : Nat} (h : v ≤ 255) (hp : ¬ plainI (v : Int) = true) {d1 d2 d3 : UInt8} (e1 : d1.toNat = 48 + v / 100) (e2 : d2.toNat = 48 + v / 10 % 10) (e3 : d3.toNat = 48 + v % 10) :
    escL (l ++ [UInt8.ofNat v]) = escL l ++ [92, d1, d2, d3] := by
  have hvn := toNat_ofNat8 h
  rw [escL_append, escL_cons, escB_esc (by rw [hvn]; exact hp), hvn, ← e1, ← e2, ← e3, UInt8.ofNat_toNat, UInt8.ofNat_toNat, UInt8.ofNat_toNat]
  rfl
theorem parse_loop (a0 : ByteArray) (hs : a0.size ≤ 1000000000) : ∀ (d i : Nat) (ls : List ByteArray) (l : List UInt8), a0.size = i + d → ls.length ≤ i → l.length ≤ i → (∀ x ∈ ls, Low (B x)) → Low l →
    (B a0).take i = textB ls ++ escL l → (i = 0 → B a0 ≠ [46]) →
    ∃ r K, (∀ k, K ≤ k → name_Parse.l0 k a0 ls (nums l) (i : Int) = some r) ∧ Good a0 r := by
  intro d
  induction d using Nat.strongRecOn with
  | _ d ih =>
  intro i ls l hd hl1 hl2 hlow hlowl ht hne
  have bad : ∀ (f : Nat → Option (ByteArray × Bool)), (∀ k, f (k + 1) = some ((⟨#[]⟩ : ByteArray), false)) → ∃ r K, (∀ k, K ≤ k → f k = some r) ∧ Good a0 r := fun f hf => ⟨_, 1, fun k hk => by
    obtain ⟨k, rfl⟩ : ∃ m, k = m + 1 := ⟨k - 1, by omega⟩
    exact hf k, .inl rfl⟩
  by_cases hlt : i < a0.size
  · have hi : i < (B a0).length := by rw [B_length]; omega
    have hb := bt_B a0 i hi
    have hw : wrap64 ((i : Int) + 1) = ((i + 1 : Nat) : Int) := by rw [w64 (by omega) (by omega)]; omega
    have htake := List.take_succ_eq_append_getElem hi
    have hc255 := ((B a0)[i]).toNat_lt
    generalize hcd : (B a0)[i] = c at hb htake hc255
    have head : ∀ k, name_Parse.l0 (k + 1) a0 ls (nums l) (i : Int) = if (c.toNat : Int) = 46 then name_Parse.l0 k a0 (ls ++ [mkB l]) ([] : List Int) ((i + 1 : Nat) : Int)
        else if plainI (c.toNat : Int) = true then name_Parse.l0 k a0 ls (nums l ++ [(c.toNat : Int)]) ((i + 1 : Nat) : Int)
        else if (c.toNat : Int) = 92 then name_Parse.j1 k a0 ls (nums l) (i : Int) (decide (((i + 3 : Nat) : Int) < (a0.size : Int))) else name_Parse.j1 k a0 ls (nums l) (i : Int) false := by
      intro k
      have hw3 : wrap64 ((i : Int) + 3) = ((i + 3 : Nat) : Int) := by rw [w64 (by omega) (by omega)]; omega
      rw [name_Parse.l0, if_pos (show (i : Int) < (a0.size : Int) by omega), if_pos (show 0 ≤ (i : Int) by omega), hb, if_pos (show ls.length < 8796093022208 by omega), nums_str, hw, plain_eq, Option.bind_some, if_pos (show (nums l).length < 140737488355328 by rw [nums_length]; omega), hw3]
    by_cases dot : (c.toNat : Int) = 46
    · have hc : c = 46 := UInt8.toNat_inj.1 (by show c.toNat = 46; omega)
      obtain ⟨r, K, hK, hg⟩ := ih (d - 1) (by omega) (i + 1) (ls ++ [mkB l]) [] (by omega) (by simp; omega) (by simp) (by
        intro x hx
        rcases List.mem_append.1 hx with hx | hx
        · exact hlow x hx
        · rw [List.mem_singleton.1 hx, B_mkB]; exact hlowl) (by intro x hx; cases hx) (by
        rw [htake, ht, textB_append, hc, textB_cons, B_mkB]
        simp [textB, escL]) (fun h => by omega)
      refine ⟨r, K + 1, fun k hk => ?_, hg⟩
      obtain ⟨k, rfl⟩ : ∃ m, k = m + 1 := ⟨k - 1, by omega⟩
      rw [head, if_pos dot]
      exact hK k (by omega)
    by_cases pl : plainI (c.toNat : Int) = true
    · have hq := (plainI_iff _).1 pl
      obtain ⟨r, K, hK, hg⟩ := ih (d - 1) (by omega) (i + 1) ls (l ++ [c]) (by omega) (by omega) (by simp; omega) hlow (by
        rw [low_append]
        refine ⟨hlowl, fun x hx => ?_⟩
        obtain rfl := List.mem_singleton.1 hx
        omega) (by
        rw [htake, ht, escL_append, List.append_assoc]
        congr 2
        rw [escL_cons, escB_plain pl]; rfl) (fun h => by omega)
      refine ⟨r, K + 1, fun k hk => ?_, hg⟩
      obtain ⟨k, rfl⟩ : ∃ m, k = m + 1 := ⟨k - 1, by omega⟩
      rw [head, if_neg dot, if_pos pl]
      have := hK k (by omega)
      rw [nums_append] at this
      exact this
    by_cases bs : (c.toNat : Int) = 92 ∧ i + 3 < a0.size
    · have hc : c = 92 := UInt8.toNat_inj.1 (by have := bs.1; show c.toNat = 92; omega)
      have hw4 : wrap64 ((i : Int) + 4) = ((i + 4 : Nat) : Int) := by rw [w64 (by omega) (by omega)]; omega
      have h1 : i + 1 < (B a0).length := by rw [B_length]; omega
      have h2 : i + 2 < (B a0).length := by rw [B_length]; omega
      have h3 : i + 3 < (B a0).length := by rw [B_length]; omega
      have hex : bytesOf (a0.extract (((i + 1 : Nat) : Int)).toNat (((i + 4 : Nat) : Int)).toNat) = [((B a0)[i + 1].toNat : Int), ((B a0)[i + 2].toNat : Int), ((B a0)[i + 3].toNat : Int)] := by
        rw [Int.toNat_natCast, Int.toNat_natCast]
        show (B (a0.extract (i + 1) (i + 4))).map (fun b => (b.toNat : Int)) = _
        rw [B_extract, show i + 4 - (i + 1) = 3 by omega, List.drop_eq_getElem_cons h1, List.drop_eq_getElem_cons h2, List.drop_eq_getElem_cons h3]
        rfl
      have t1 := List.take_succ_eq_append_getElem h1
      have t2 := List.take_succ_eq_append_getElem h2
      have t3 := List.take_succ_eq_append_getElem h3
      generalize (B a0)[i + 1] = d1 at hex t1
      generalize (B a0)[i + 2] = d2 at hex t2
      generalize (B a0)[i + 3] = d3 at hex t3
      have lt3 : ∀ a b c : Int, (([a, b, c].length : Nat) : Int) = 3 := fun _ _ _ => rfl
      have jj : ∀ k, name_Parse.l0 (k + 2) a0 ls (nums l) (i : Int) = name_Parse.l1 k a0 ls (nums l) (i : Int) 0 [(d1.toNat : Int), (d2.toNat : Int), (d3.toNat : Int)] 3 0 := by
        intro k
        rw [head, if_neg dot, if_neg pl, if_pos bs.1, decide_eq_true (show ((i + 3 : Nat) : Int) < (a0.size : Int) by omega), name_Parse.j1, if_pos rfl, hw, hw4, if_pos (show (0 : Int) ≤ ((i + 1 : Nat) : Int) by omega), if_pos (show ((i + 1 : Nat) : Int) ≤ ((i + 4 : Nat) : Int) by omega), if_pos (show ((i + 4 : Nat) : Int) ≤ (a0.size : Int) by omega), hex, Option.bind_some, lt3]
      have hw5 := wrap_34 i (by omega)
      obtain ⟨o1, o2, o3, o4, o5⟩ := par_arith a0.size i d ls.length l.length hs hd bs.2 hl1 hl2
      rw [← nums_length l] at o5
      rcases digits a0 ls (nums l) (i : Int) d1 d2 d3 with hr | ⟨v, v1, v2, v3, e1, e2, e3, hr⟩
      · refine ⟨((⟨#[]⟩ : ByteArray), false), 6, fun k hk => ?_, .inl rfl⟩
        obtain ⟨k, rfl⟩ := Nat.exists_eq_add_of_le' hk
        rw [show k + 6 = (k + 4) + 2 from rfl, jj]
        exact hr k
      · have hvn := toNat_ofNat8 v1
        obtain ⟨r, K, hK, hg⟩ := ih (d - 4) o1 (i + 4) ls (l ++ [UInt8.ofNat v]) o2 o3 (by rw [List.length_append]; exact o4) hlow (by
          rw [low_append]
          refine ⟨hlowl, fun x hx => ?_⟩
          obtain rfl := List.mem_singleton.1 hx
          rw [hvn]; exact v3) (by
          have hes := escL_esc l v1 v2 e1 e2 e3
          rw [show i + 4 = i + 3 + 1 from rfl, t3, show i + 3 = i + 2 + 1 from rfl, t2, show i + 2 = i + 1 + 1 from rfl, t1, htake, ht, hes, hc]
          simp only [List.append_assoc, List.cons_append, List.nil_append]) (fun h => by cases h)
        refine ⟨r, K + 6, fun k hk => ?_, hg⟩
        obtain ⟨k, rfl⟩ := Nat.exists_eq_add_of_le' (Nat.le_trans (Nat.le_add_left 6 K) hk)
        have hk2 : K ≤ k := Nat.le_of_add_le_add_right hk
        rw [show k + 6 = (k + 4) + 2 from rfl, jj, hr, if_pos o5, hw5]
        have := hK k hk2
        rw [nums_append] at this
        have hvs : nums [UInt8.ofNat v] = [(v : Int)] := by show [((UInt8.ofNat v).toNat : Int)] = _; rw [hvn]
        rw [hvs] at this
        exact this
    · refine ⟨_, 2, fun k hk => ?_, .inl rfl⟩
      obtain ⟨k, rfl⟩ : ∃ m, k = m + 2 := ⟨k - 2, by omega⟩
      rw [head, if_neg dot, if_neg pl]
      by_cases b1 : (c.toNat : Int) = 92
      · rw [if_pos b1, decide_eq_false (show ¬ ((i + 3 : Nat) : Int) < (a0.size : Int) from fun h => bs ⟨b1, by omega⟩), name_Parse.j1, if_neg (by decide)]
      · rw [if_neg b1, name_Parse.j1, if_neg (by decide)]
  · have hi : i = a0.size := by omega
    have ht2 : B a0 = textB ls ++ escL l := by rw [← ht, List.take_of_length_le (by rw [B_length]; omega)]
    have en : ∀ k, name_Parse.l0 (k + 1) a0 ls (nums l) (i : Int) = if ((nums l).length : Int) > 0 then some ((⟨#[]⟩ : ByteArray), false) else if (ls.length : Int) = 0 then some ((⟨#[]⟩ : ByteArray), false) else (name_Make.f ls).bind fun bt101 => some (bt101.1, bt101.2) := fun k => by
      rw [name_Parse.l0, if_neg (show ¬ (i : Int) < (a0.size : Int) by omega)]
    by_cases c1 : ((nums l).length : Int) > 0
    · exact bad _ fun k => by rw [en, if_pos c1]
    by_cases c2 : (ls.length : Int) = 0
    · exact bad _ fun k => by rw [en, if_neg c1, if_pos c2]
    have hl0 : l = [] := List.eq_nil_of_length_eq_zero (by rw [nums_length] at c1; omega)
    by_cases c3 : (∀ x ∈ ls, Ok (B x)) ∧ (enc (ls.map foldL)).length ≤ 254
    · obtain ⟨m1, m2⟩ := make_nm c3.1 c3.2
      refine ⟨_, 1, fun k hk => ?_, .inr ⟨_, _, rfl, m2, ?_⟩⟩
      · obtain ⟨k, rfl⟩ : ∃ m, k = m + 1 := ⟨k - 1, by omega⟩
        rw [en, if_neg c1, if_neg c2, m1, Option.bind_some]
      · have e1 : ls.map foldL = ls.map B := List.map_congr_left fun x hx => foldL_low (hlow x hx)
        have e2 : (ls.map B).map mkB = ls := by
          rw [List.map_map]
          conv => rhs; rw [← List.map_id ls]
          exact List.map_congr_left fun x _ => mkB_B x
        unfold textOf
        rw [e1, if_neg (fun e => c2 (by rw [List.map_eq_nil_iff] at e; rw [e]; rfl)), e2, B_mkB, ht2, hl0]
        simp [escL]
    · exact bad _ fun k => by rw [en, if_neg c1, if_neg c2, make_none (by omega) c3, Option.bind_some]
theorem parse_ev (a0 : ByteArray) (hs : a0.size ≤ 1000000000) : ∃ r, Ev (fun k => name_Parse.f k a0) r ∧ Good a0 r := by
  by_cases c : a0.toList = ([46] : List UInt8)
  · refine ⟨((⟨#[]⟩ : ByteArray), true), ⟨0, fun k _ => ?_⟩, .inr ⟨_, _, rfl, Nm.nil, ?_⟩⟩
    · show name_Parse.f k a0 = _
      unfold name_Parse.f
      rw [if_pos c]
    · rw [toList_B] at c
      rw [c]; rfl
  · obtain ⟨r, K, hK, hg⟩ := parse_loop a0 hs a0.size 0 [] [] (by omega) (by simp) (by simp) (by simp) (by intro x hx; cases hx) (by simp [textB, escL]) (by rw [toList_B] at c; exact fun _ => c)
    refine ⟨r, ⟨K, fun k hk => ?_⟩, hg⟩
    show name_Parse.f k a0 = _
    unfold name_Parse.f
    rw [if_neg c]
    exact hK k hk
end Go.Proofs.Ytihlimbdgipdeaa.NamL

namespace Go.Proofs.Ytihlimbdgipdeaa.NamL
open Go.RowKit Go.Proofs.Ytihlimbdgipdeaa.PPar Go.Proofs.Ytihlimbdgipdeaa.PNam Go.Proofs.Ytihlimbdgipdeaa.PBase0 Go.Proofs.Ytihlimbdgipdeaa.Hand Go.Proofs.YtihlimbdgipdeaaW.PrintWords Go.Proofs.YtihlimbdgipdeaaW.PrintLast

theorem bt_mid {a : ByteArray} {pre post : List UInt8} {c : UInt8} (h : B a = pre ++ c :: post) : bt a (pre.length : Int) = (c.toNat : Int) := by
  have hi : pre.length < (B a).length := by rw [h]; simp
  rw [bt_B a _ hi]
  congr 2
  have : (B a)[pre.length]? = some c := by rw [h]; simp
  exact (List.getElem?_eq_some_iff.1 this).2
theorem size_mid {a : ByteArray} {pre post : List UInt8} {c : UInt8} (h : B a = pre ++ c :: post) : a.size = pre.length + 1 + post.length := by
  rw [← B_length, h, List.length_append, List.length_cons]; omega
theorem parse_head (a0 : ByteArray) (hs : a0.size ≤ 1000000000) (ls : List ByteArray) (l pre post : List UInt8) (c : UInt8) (h : B a0 = pre ++ c :: post) (hl1 : ls.length ≤ 1000000000) (hl2 : l.length ≤ 1000000000) :
    ∀ k, name_Parse.l0 (k + 1) a0 ls (nums l) (pre.length : Int) = if (c.toNat : Int) = 46 then name_Parse.l0 k a0 (ls ++ [mkB l]) ([] : List Int) ((pre.length + 1 : Nat) : Int)
        else if plainI (c.toNat : Int) = true then name_Parse.l0 k a0 ls (nums l ++ [(c.toNat : Int)]) ((pre.length + 1 : Nat) : Int)
        else if (c.toNat : Int) = 92 then name_Parse.j1 k a0 ls (nums l) (pre.length : Int) (decide (((pre.length + 3 : Nat) : Int) < (a0.size : Int))) else name_Parse.j1 k a0 ls (nums l) (pre.length : Int) false := by
  intro k
  have hb := bt_mid h
  have hz := size_mid h
  generalize pre.length = i at hb hz ⊢
  have hw : wrap64 ((i : Int) + 1) = ((i + 1 : Nat) : Int) := by rw [w64 (by omega) (by omega)]; omega
  have hw3 : wrap64 ((i : Int) + 3) = ((i + 3 : Nat) : Int) := by rw [w64 (by omega) (by omega)]; omega
  rw [name_Parse.l0, if_pos (show (i : Int) < (a0.size : Int) by omega), if_pos (show 0 ≤ (i : Int) by omega), hb, if_pos (show ls.length < 8796093022208 by omega), nums_str, hw, plain_eq, Option.bind_some, if_pos (show (nums l).length < 140737488355328 by rw [nums_length]; omega), hw3]
theorem wrap_d (m n : Nat) (hm : m ≤ 1000) (hn : n ≤ 9) : wrap64 ((wrap64 ((m : Int) * 10)) + (n : Int)) = ((10 * m + n : Nat) : Int) := by
  have h1 : wrap64 ((m : Int) * 10) = (m : Int) * 10 := w64 (by omega) (by omega)
  have h2 : wrap64 ((m : Int) * 10 + (n : Int)) = (m : Int) * 10 + (n : Int) := w64 (by omega) (by omega)
  rw [h1, h2]; omega
theorem digit_st (a0 : ByteArray) (x4 : List ByteArray) (x5 : List Int) (x6 : Int) (ys : List Int) (lt : ((ys.length : Nat) : Int) = 3) (k m : Nat) (j : Int) (n : Nat) (h0 : 0 ≤ j) (h1 : j < 3) (hr : rd ys j = ((48 + n : Nat) : Int)) (hn : n ≤ 9) (hm : m ≤ 1000) :
    name_Parse.l1 (k + 1) a0 x4 x5 x6 (m : Int) ys 3 j = name_Parse.l1 k a0 x4 x5 x6 ((10 * m + n : Nat) : Int) ys 3 (wrap64 (j + 1)) := by
  have q : (((48 + n : Nat) : Int) - 48) % 256 = (n : Int) := by omega
  rw [name_Parse.l1, if_pos h1, if_pos h0, lt, if_pos h1, hr, if_neg (show ¬ ((48 + n : Nat) : Int) < 48 by omega), if_neg (show ¬ ((48 + n : Nat) : Int) > 57 by omega), q, wrap_d m n hm hn]
theorem digit_en (a0 : ByteArray) (x4 : List ByteArray) (x5 : List Int) (x6 : Int) (ys : List Int) (v : Nat) (h1 : v ≤ 255) (h2 : ¬ plainI (v : Int) = true) (h3 : ¬ (65 ≤ (v : Int) ∧ (v : Int) ≤ 90)) (k : Nat) (hx : x5.length < 140737488355328) :
    name_Parse.l1 (k + 1) a0 x4 x5 x6 (v : Int) ys 3 3 = name_Parse.l0 k a0 x4 (x5 ++ [(v : Int)]) (wrap64 ((wrap64 (x6 + 3)) + 1)) := by
  have hm : (v : Int) % 256 = v := by omega
  have ff := fold_f (v : Int) (by omega) (by omega)
  rw [name_Parse.l1, if_neg (show ¬ ((3 : Int) < 3) by decide), hm, plain_eq, Option.bind_some, if_neg (show ¬ (v : Int) > 255 by omega), if_neg h2, ff, Option.bind_some, if_neg h3, if_pos rfl, if_pos hx]
theorem digits_ok (a0 : ByteArray) (x4 : List ByteArray) (x5 : List Int) (x6 : Int) (v : Nat) (h1 : v ≤ 255) (h2 : ¬ plainI (v : Int) = true) (h3 : ¬ (65 ≤ v ∧ v ≤ 90)) (k : Nat) (hx : x5.length < 140737488355328) :
    name_Parse.l1 (k + 4) a0 x4 x5 x6 0 [((48 + v / 100 : Nat) : Int), ((48 + v / 10 % 10 : Nat) : Int), ((48 + v % 10 : Nat) : Int)] 3 0 = name_Parse.l0 k a0 x4 (x5 ++ [(v : Int)]) (wrap64 ((wrap64 (x6 + 3)) + 1)) := by
  have w1 : wrap64 ((0 : Int) + 1) = 1 := w64 (by decide) (by decide)
  have w2 : wrap64 ((1 : Int) + 1) = 2 := w64 (by decide) (by decide)
  have w3 : wrap64 ((2 : Int) + 1) = 3 := w64 (by decide) (by decide)
  have a1 : 10 * (10 * (10 * 0 + v / 100) + v / 10 % 10) + v % 10 = v := by omega
  have b1 : v / 100 ≤ 9 := by omega
  have b2 : v / 10 % 10 ≤ 9 := by omega
  have b3 : v % 10 ≤ 9 := by omega
  have c1 : 10 * 0 + v / 100 ≤ 1000 := by omega
  have c2 : 10 * (10 * 0 + v / 100) + v / 10 % 10 ≤ 1000 := by omega
  have s1 := digit_st a0 x4 x5 x6 [((48 + v / 100 : Nat) : Int), ((48 + v / 10 % 10 : Nat) : Int), ((48 + v % 10 : Nat) : Int)] rfl (k + 3) 0 0 (v / 100) (by decide) (by decide) rfl b1 (by decide)
  have s2 := digit_st a0 x4 x5 x6 [((48 + v / 100 : Nat) : Int), ((48 + v / 10 % 10 : Nat) : Int), ((48 + v % 10 : Nat) : Int)] rfl (k + 2) (10 * 0 + v / 100) 1 (v / 10 % 10) (by decide) (by decide) rfl b2 c1
  have s3 := digit_st a0 x4 x5 x6 [((48 + v / 100 : Nat) : Int), ((48 + v / 10 % 10 : Nat) : Int), ((48 + v % 10 : Nat) : Int)] rfl (k + 1) (10 * (10 * 0 + v / 100) + v / 10 % 10) 2 (v % 10) (by decide) (by decide) rfl b3 c2
  rw [w1] at s1
  rw [w2] at s2
  rw [w3, a1] at s3
  exact (s1.trans s2).trans (s3.trans (digit_en a0 x4 x5 x6 _ v h1 h2 (fun h => h3 ⟨Int.ofNat_le.1 h.1, Int.ofNat_le.1 h.2⟩) k hx))
theorem esc_step (a0 : ByteArray) (hs : a0.size ≤ 1000000000) (ls : List ByteArray) (l pre post : List UInt8) (c : UInt8) (h : B a0 = pre ++ escB c ++ post) (hp : ¬ plainI (c.toNat : Int) = true) (hlow : ¬ (65 ≤ c.toNat ∧ c.toNat ≤ 90)) (hl1 : ls.length ≤ 1000000000) (hl2 : l.length ≤ 1000000000) :
    ∀ k, name_Parse.l0 (k + 6) a0 ls (nums l) (pre.length : Int) = name_Parse.l0 k a0 ls (nums (l ++ [c])) (((pre ++ escB c).length : Nat) : Int) := by
  intro k
  have hc := c.toNat_lt
  have he := escB_esc hp
  have h' : B a0 = pre ++ 92 :: ([UInt8.ofNat (48 + c.toNat / 100), UInt8.ofNat (48 + c.toNat / 10 % 10), UInt8.ofNat (48 + c.toNat % 10)] ++ post) := by rw [h, he]; simp
  have hz := size_mid h'
  rw [List.length_append] at hz
  have hz2 : a0.size = pre.length + 4 + post.length := by rw [hz]; simp; omega
  have hlen : (pre ++ escB c).length = pre.length + 4 := by rw [he]; simp
  have hex : bytesOf (a0.extract (((pre.length + 1 : Nat) : Int)).toNat (((pre.length + 4 : Nat) : Int)).toNat) = [((48 + c.toNat / 100 : Nat) : Int), ((48 + c.toNat / 10 % 10 : Nat) : Int), ((48 + c.toNat % 10 : Nat) : Int)] := by
    rw [Int.toNat_natCast, Int.toNat_natCast]
    show (B (a0.extract (pre.length + 1) (pre.length + 4))).map (fun b => (b.toNat : Int)) = _
    rw [B_extract, h', show pre.length + 4 - (pre.length + 1) = 3 by omega]
    have e1 : (UInt8.ofNat (48 + c.toNat / 100)).toNat = 48 + c.toNat / 100 := toNat_ofNat8 (by omega)
    have e2 : (UInt8.ofNat (48 + c.toNat / 10 % 10)).toNat = 48 + c.toNat / 10 % 10 := toNat_ofNat8 (by omega)
    have e3 : (UInt8.ofNat (48 + c.toNat % 10)).toNat = 48 + c.toNat % 10 := toNat_ofNat8 (by omega)
    rw [show pre.length + 1 = (pre ++ [(92 : UInt8)]).length by simp, show pre ++ 92 :: ([UInt8.ofNat (48 + c.toNat / 100), UInt8.ofNat (48 + c.toNat / 10 % 10), UInt8.ofNat (48 + c.toNat % 10)] ++ post) = (pre ++ [92]) ++ ([UInt8.ofNat (48 + c.toNat / 100), UInt8.ofNat (48 + c.toNat / 10 % 10), UInt8.ofNat (48 + c.toNat % 10)] ++ post) by simp, List.drop_left]
    show [((UInt8.ofNat (48 + c.toNat / 100)).toNat : Int), ((UInt8.ofNat (48 + c.toNat / 10 % 10)).toNat : Int), ((UInt8.ofNat (48 + c.toNat % 10)).toNat : Int)] = _
    rw [e1, e2, e3]
  have hh := parse_head a0 hs ls l pre _ 92 h' hl1 hl2 (k + 5)
  have lt3 : ∀ a b c : Int, (([a, b, c].length : Nat) : Int) = 3 := fun _ _ _ => rfl
  have n92 : (((92 : UInt8).toNat : Nat) : Int) = 92 := rfl
  rw [n92] at hh
  rw [show k + 6 = k + 5 + 1 from rfl, hh, if_neg (by decide), if_neg (by decide +kernel), if_pos rfl, hlen]
  clear hh hz he h h' hlen
  have hw5 := wrap_34 pre.length (by omega)
  generalize pre.length = i at hz2 hex hw5 ⊢
  have hw : wrap64 ((i : Int) + 1) = ((i + 1 : Nat) : Int) := by rw [w64 (by omega) (by omega)]; omega
  have hw4 : wrap64 ((i : Int) + 4) = ((i + 4 : Nat) : Int) := by rw [w64 (by omega) (by omega)]; omega
  rw [decide_eq_true (show ((i + 3 : Nat) : Int) < (a0.size : Int) by omega), show k + 5 = (k + 4) + 1 from rfl, name_Parse.j1, if_pos rfl, hw, hw4, if_pos (show (0 : Int) ≤ ((i + 1 : Nat) : Int) by omega), if_pos (show ((i + 1 : Nat) : Int) ≤ ((i + 4 : Nat) : Int) by omega), if_pos (show ((i + 4 : Nat) : Int) ≤ (a0.size : Int) by omega), hex, Option.bind_some, lt3,
    digits_ok a0 ls (nums l) (i : Int) c.toNat (by omega) hp hlow k (by rw [nums_length]; omega), hw5, nums_append]
  rfl
theorem label_run (a0 : ByteArray) (hs : a0.size ≤ 1000000000) (ls : List ByteArray) (hl : ls.length ≤ 1000) (post : List UInt8) : ∀ (l2 l1 pre : List UInt8), B a0 = pre ++ escL l2 ++ 46 :: post → Low l2 → l1.length + l2.length ≤ 1000 →
    ∃ n, ∀ k, name_Parse.l0 (k + n) a0 ls (nums l1) (pre.length : Int) = name_Parse.l0 k a0 (ls ++ [mkB (l1 ++ l2)]) (nums []) (((pre ++ escL l2 ++ [46]).length : Nat) : Int) := by
  intro l2
  induction l2 with
  | nil =>
    intro l1 pre h _ hlen
    refine ⟨1, fun k => ?_⟩
    have h' : B a0 = pre ++ 46 :: post := by rw [h]; simp [escL]
    rw [parse_head a0 hs ls l1 pre post 46 h' (by omega) (by simp at hlen; omega) k, if_pos (by decide)]
    have e : (pre ++ escL [] ++ [46]).length = pre.length + 1 := by simp [escL]
    rw [e, List.append_nil]
    rfl
  | cons c l2 ih =>
    intro l1 pre h hlow hlen
    have hl1 : l1.length ≤ 1000000000 := by omega
    have hlc : ¬ (65 ≤ c.toNat ∧ c.toNat ≤ 90) := hlow c (by simp)
    rw [escL_cons] at h
    obtain ⟨n, hn⟩ := ih (l1 ++ [c]) (pre ++ escB c) (by rw [h]; simp) (fun x hx => hlow x (by simp [hx])) (by simp at hlen ⊢; omega)
    have e1 : l1 ++ [c] ++ l2 = l1 ++ c :: l2 := by simp
    have e2 : pre ++ escB c ++ escL l2 ++ [46] = pre ++ escL (c :: l2) ++ [46] := by rw [escL_cons]; simp
    rw [e1, e2] at hn
    by_cases hp : plainI (c.toNat : Int) = true
    · refine ⟨n + 1, fun k => ?_⟩
      have eb := escB_plain hp
      rw [eb] at hn
      have h' : B a0 = pre ++ c :: (escL l2 ++ 46 :: post) := by rw [h, eb]; simp
      have hq := (plainI_iff _).1 hp
      rw [show k + (n + 1) = k + n + 1 from rfl, parse_head a0 hs ls l1 pre _ c h' (by omega) hl1 (k + n), if_neg (show ¬ (c.toNat : Int) = 46 by omega), if_pos hp]
      have := hn k
      rw [nums_append, show (pre ++ [c]).length = pre.length + 1 by simp] at this
      exact this
    · refine ⟨n + 6, fun k => ?_⟩
      rw [show k + (n + 6) = k + n + 6 from rfl, esc_step a0 hs ls l1 pre (escL l2 ++ 46 :: post) c (by rw [h]; simp) hp hlc (by omega) hl1 (k + n)]
      exact hn k
theorem labels_run (a0 : ByteArray) (hs : a0.size ≤ 1000000000) : ∀ (ms : Lb) (ls : List ByteArray) (pre : List UInt8), B a0 = pre ++ textB (ms.map mkB) → (∀ l ∈ ms, Low l ∧ l.length ≤ 1000) → ls.length + ms.length ≤ 1000 →
    ∃ n, ∀ k, name_Parse.l0 (k + n) a0 ls (nums []) (pre.length : Int) = name_Parse.l0 k a0 (ls ++ ms.map mkB) (nums []) (((B a0).length : Nat) : Int) := by
  intro ms
  induction ms with
  | nil =>
    intro ls pre h _ _
    refine ⟨0, fun k => ?_⟩
    have e : B a0 = pre := by rw [h]; simp [textB]
    rw [e, List.map_nil, List.append_nil]
    rfl
  | cons l ms ih =>
    intro ls pre h hl hlen
    rw [List.map_cons, textB_cons, B_mkB] at h
    rw [List.length_cons] at hlen
    obtain ⟨n1, h1⟩ := label_run a0 hs ls (by omega) (textB (ms.map mkB)) l [] pre (by rw [h]; simp) (hl l (by simp)).1 (by simp; exact (hl l (by simp)).2)
    obtain ⟨n2, h2⟩ := ih (ls ++ [mkB l]) (pre ++ escL l ++ [46]) (by rw [h]; simp) (fun x hx => hl x (by simp [hx])) (by simp; omega)
    refine ⟨n2 + n1, fun k => ?_⟩
    rw [show k + (n2 + n1) = k + n2 + n1 by omega, h1, List.nil_append, h2, List.map_cons, List.append_assoc]
    rfl
theorem low_of_enc {ls : Lb} (h : Low (enc ls)) : ∀ l ∈ ls, Low l := by
  intro l hl c hc
  refine h c ?_
  unfold enc
  rw [List.mem_flatMap]
  exact ⟨l, hl, by simp [encL, hc]⟩
theorem parse_text {s : ByteArray} {ms : Lb} (h : Nm s ms) : Ev (fun k => name_Parse.f k (textOf ms)) (s, true) := by
  have hlow := low_of_enc (h.1 ▸ h.2.2.1)
  have h1 := textB_enc ms
  have h2 := h.length
  have h3 := h.2.2.2
  have h4 := enc_length_le ms
  unfold textOf
  by_cases c : ms = []
  · subst c
    rw [if_pos rfl]
    refine ⟨0, fun k _ => ?_⟩
    show name_Parse.f k (mkB [46]) = _
    unfold name_Parse.f
    rw [if_pos (by rw [toList_B]; rfl), nm_nil h]
  · rw [if_neg c]
    have hB : B (mkB (textB (ms.map mkB))) = textB (ms.map mkB) := rfl
    have hsz : (mkB (textB (ms.map mkB))).size ≤ 1000000000 := by rw [mkB_size]; omega
    obtain ⟨n, hn⟩ := labels_run (mkB (textB (ms.map mkB))) hsz ms [] [] (by rw [hB]; rfl) (fun l hl => ⟨hlow l hl, by have := (h.2.1 l hl).2; omega⟩) (by simp; omega)
    have hdot : (mkB (textB (ms.map mkB))).toList ≠ [46] := by
      rw [toList_B, hB]
      cases ms with
      | nil => exact absurd rfl c
      | cons l ms =>
        have ho := (h.2.1 l (by simp)).1
        have := escL_length l
        intro e
        rw [List.map_cons, textB_cons, B_mkB] at e
        have := congrArg List.length e
        simp at this
        omega
    have hf : (ms.map mkB).map foldL = ms := by
      rw [List.map_map]
      conv => rhs; rw [← List.map_id ms]
      exact List.map_congr_left fun l hl => foldL_low (by rw [B_mkB]; exact hlow l hl)
    have hm := (make_nm (ls := ms.map mkB) (by
      intro l hl
      obtain ⟨x, hx, rfl⟩ := List.mem_map.1 hl
      exact h.2.1 x hx) (by rw [hf]; omega)).1
    rw [hf] at hm
    have hsn : mkB (enc ms) = s := by rw [← h.1, mkB_B]
    rw [hsn] at hm
    have hl0 : ¬ (((ms.map mkB).length : Nat) : Int) = 0 := by
      rw [List.length_map]
      intro e
      exact c (List.eq_nil_of_length_eq_zero (by omega))
    refine ⟨n + 1, fun k hk => ?_⟩
    obtain ⟨k, rfl⟩ := Nat.exists_eq_add_of_le' hk
    show name_Parse.f _ _ = _
    unfold name_Parse.f
    rw [if_neg hdot, show k + (n + 1) = (k + 1) + n by omega]
    refine (hn (k + 1)).trans ?_
    rw [name_Parse.l0, if_neg (by rw [B_length]; omega), if_neg (by simp [nums]), List.nil_append, if_neg hl0, hm, Option.bind_some]
end Go.Proofs.Ytihlimbdgipdeaa.NamL

namespace Go.Proofs.Ytihlimbdgipdeaa.Pure
open Go.RowKit Go.Proofs.Ytihlimbdgipdeaa.PTex Go.Proofs.Ytihlimbdgipdeaa.PPar Go.Proofs.Ytihlimbdgipdeaa.PNam Go.Proofs.Ytihlimbdgipdeaa.PBase0 Go.Proofs.Ytihlimbdgipdeaa.Hand Go.Proofs.Ytihlimbdgipdeaa.NamL Go.Proofs.YtihlimbdgipdeaaW.PrintWords Go.Proofs.YtihlimbdgipdeaaW.PrintLast
theorem text_no (k : Nat) (ls : List ByteArray) (ha : bolterlaw02_awake.f k = some true) (h1 : name_Make.f ls = some ((⟨#[]⟩ : ByteArray), false)) : bolterlaw02_NameText.f k ls = some true := by
  unfold bolterlaw02_NameText.f
  rw [ha, Option.bind_some, if_pos rfl, h1, Option.bind_some]
  dsimp only
  rw [if_neg Bool.false_ne_true]
theorem text_yes (k : Nat) (ls low : List ByteArray) (b : Bool) (n t : ByteArray) (ha : bolterlaw02_awake.f k = some true) (h1 : name_Make.f ls = some (n, true)) (h2 : bolterlaw02_labels.f k n = some (low, b)) (h3 : name_Text.f k n = some t) (h4 : name_Parse.f k t = some (n, true)) (h5 : bolterlaw02_text.f k low = some t) :
    bolterlaw02_NameText.f k ls = some true := by
  unfold bolterlaw02_NameText.f
  rw [ha, Option.bind_some, if_pos rfl, h1, Option.bind_some]
  dsimp only
  rw [if_pos rfl, h2, Option.bind_some, h3, Option.bind_some, h4, Option.bind_some]
  dsimp only
  rw [h5, Option.bind_some, if_pos rfl, if_pos rfl, beq_self_eq_true]
theorem NameText (ls : List ByteArray) (hs : ls.length ≤ 140737488351232) : ∃ k, bolterlaw02_NameText.f k ls = some true := by
  obtain ⟨K, hK⟩ := awake_ev
  by_cases c : (∀ l ∈ ls, Ok (B l)) ∧ (enc (ls.map foldL)).length ≤ 254
  · obtain ⟨m1, m2⟩ := make_nm c.1 c.2
    obtain ⟨K2, h2⟩ := law_labels_yes m2
    obtain ⟨K3, h3⟩ := name_text m2
    obtain ⟨K4, h4⟩ := parse_text m2
    obtain ⟨K5, h5⟩ := law_text m2
    exact ⟨K + K2 + K3 + K4 + K5, text_yes _ ls _ _ _ _ (hK _ (by omega)) m1 (h2 _ (by omega)) (h3 _ (by omega)) (h4 _ (by omega)) (h5 _ (by omega))⟩
  · exact ⟨K, text_no K ls (hK K (Nat.le_refl _)) (make_none hs c)⟩
end Go.Proofs.Ytihlimbdgipdeaa.Pure

