/- The targets that the statements are about, and what a target means by the statements' own words. -/
import Derived.Test.YtdkjlbbbdjkhbaaNamA
import Derived.Test.YtdkjlbbbdjkhbaaPAllx9
import Derived.Test.YtdkjlbbbdjkhbaaPAllx38
import Derived.Test.YtdkjlbbbdjkhbaaPAllx46
set_option linter.unusedVariables false
namespace Go.Proofs.Ytdkjlbbbdjkhbaa.ActA
open Go.RowKit Go.Proofs.Ytdkjlbbbdjkhbaa.PAll Go.Proofs.Ytdkjlbbbdjkhbaa.Hand Go.Proofs.Ytdkjlbbbdjkhbaa.NamL Go.Proofs.YtdkjlbbbdjkhbaaW.PrintWords Go.Proofs.YtdkjlbbbdjkhbaaW.PrintLast

/-! ### the targets -/
def bStar : List UInt8 := [42]
def bOrg : List UInt8 := [111, 114, 103]
def bPass : List UInt8 := [114, 112, 122, 45, 112, 97, 115, 115, 116, 104, 114, 117]
def bDrop : List UInt8 := [114, 112, 122, 45, 100, 114, 111, 112]
def bTcp : List UInt8 := [114, 112, 122, 45, 116, 99, 112, 45, 111, 110, 108, 121]
/-- The labels of a target. -/
def tlbs (how : Int) (ns : List Int) : Lb :=
  if Int.tmod how 8 = 0 then [] else if Int.tmod how 8 = 1 then [bStar] else if Int.tmod how 8 = 2 then [bPass] else if Int.tmod how 8 = 3 then [bDrop] else if Int.tmod how 8 = 4 then [bTcp]
  else if Int.tmod how 8 = 5 then [bStar, bOrg] else lbs ns
theorem fix_nm (ls : List ByteArray) (h : (∀ l ∈ ls, Ok (B l)) ∧ (enc (ls.map foldL)).length ≤ 254 ∧ ls.map foldL = ls.map B) :
    name_Make.f ls = some (mkB (enc (ls.map B)), true) ∧ Nm (mkB (enc (ls.map B))) (ls.map B) := by
  have := make_nm h.1 h.2.1
  rw [h.2.2] at this
  exact this
instance (l : List UInt8) : Decidable (Ok l) := by unfold Ok; infer_instance
theorem lbs_size (ns : List Int) (hx : ∀ x ∈ ns, (Lit.int .u8 x).wf = true) : (enc (lbs ns)).length ≤ 84 := by
  have h := enc_words (ws := wordsOf ns) (fun w hw => wordsOf_mem hx hw)
  have := wordsOf_length ns
  unfold lbs
  omega
theorem target_ev (how : Int) (ns : List Int) (hh : (Lit.int .u8 how).wf = true) (hl : ns.length * 1 ≤ 140737488351232) (hx : ∀ x ∈ ns, (Lit.int .u8 x).wf = true) :
    Ev (fun k => bolterlaw14_Target.f k how ns) (mkB (enc (tlbs how ns))) ∧ Nm (mkB (enc (tlbs how ns))) (tlbs how ns) ∧ (enc (tlbs how ns)).length ≤ 84 := by
  have ⟨h0, h1⟩ := u8b hh
  have ⟨n1, n2⟩ := name_ev ns hl hx
  have n3 := lbs_size ns hx
  have ht : 0 ≤ Int.tmod how 8 ∧ Int.tmod how 8 < 8 := ⟨Int.tmod_nonneg _ h0, Int.tmod_lt_of_pos _ (by decide)⟩
  unfold tlbs
  have small : ∀ (i : Int) (ls : List ByteArray) (L : Lb), 0 ≤ i → i < 6 → Int.tmod how 8 = i →
      rd_L7 [([] : List ByteArray), [(⟨#[42]⟩ : ByteArray)], [(⟨#[114, 112, 122, 45, 112, 97, 115, 115, 116, 104, 114, 117]⟩ : ByteArray)], [(⟨#[114, 112, 122, 45, 100, 114, 111, 112]⟩ : ByteArray)], [(⟨#[114, 112, 122, 45, 116, 99, 112, 45, 111, 110, 108, 121]⟩ : ByteArray)], [(⟨#[42]⟩ : ByteArray), (⟨#[111, 114, 103]⟩ : ByteArray)]] i = ls →
      ((∀ l ∈ ls, Ok (B l)) ∧ (enc (ls.map foldL)).length ≤ 254 ∧ ls.map foldL = ls.map B) → ls.map B = L → (enc L).length ≤ 84 →
      Ev (fun k => bolterlaw14_Target.f k how ns) (mkB (enc L)) ∧ Nm (mkB (enc L)) L ∧ (enc L).length ≤ 84 := by
    intro i ls L i0 i6 hi hr hls hL h84
    have ⟨m1, m2⟩ := fix_nm ls hls
    rw [hL] at m1 m2
    refine ⟨⟨0, fun k _ => ?_⟩, m2, h84⟩
    show bolterlaw14_Target.f k how ns = _
    unfold bolterlaw14_Target.f
    rw [Option.bind_some, hi, if_pos i6, if_pos i0, if_pos (by simp only [List.length_cons, List.length_nil]; omega), hr, m1, Option.bind_some]
  by_cases e0 : Int.tmod how 8 = 0
  · rw [if_pos e0]; exact small 0 _ _ (by decide) (by decide) e0 rfl (by decide +kernel) rfl (by decide)
  rw [if_neg e0]
  by_cases e1 : Int.tmod how 8 = 1
  · rw [if_pos e1]; exact small 1 _ _ (by decide) (by decide) e1 rfl (by decide +kernel) rfl (by decide)
  rw [if_neg e1]
  by_cases e2 : Int.tmod how 8 = 2
  · rw [if_pos e2]; exact small 2 _ _ (by decide) (by decide) e2 rfl (by decide +kernel) rfl (by decide)
  rw [if_neg e2]
  by_cases e3 : Int.tmod how 8 = 3
  · rw [if_pos e3]; exact small 3 _ _ (by decide) (by decide) e3 rfl (by decide +kernel) rfl (by decide)
  rw [if_neg e3]
  by_cases e4 : Int.tmod how 8 = 4
  · rw [if_pos e4]; exact small 4 _ _ (by decide) (by decide) e4 rfl (by decide +kernel) rfl (by decide)
  rw [if_neg e4]
  by_cases e5 : Int.tmod how 8 = 5
  · rw [if_pos e5]; exact small 5 _ _ (by decide) (by decide) e5 rfl (by decide +kernel) rfl (by decide)
  rw [if_neg e5]
  obtain ⟨K, hK⟩ := n1
  refine ⟨⟨K, fun k hk => ?_⟩, n2, n3⟩
  dsimp only at hK
  show bolterlaw14_Target.f k how ns = _
  unfold bolterlaw14_Target.f
  rw [Option.bind_some, if_neg (by omega), hK k hk, Option.bind_some]

/-! ### what a target means -/
def ofGo (t : ByteArray) (ls : Lb) : Int × ByteArray × Bool × List S43 :=
  if ls.length = 0 then (4, ⟨#[]⟩, false, []) else
  if ls = [bStar] then (5, ⟨#[]⟩, false, []) else if ls = [bPass] then (2, ⟨#[]⟩, false, []) else if ls = [bDrop] then (3, ⟨#[]⟩, false, []) else if ls = [bTcp] then (6, ⟨#[]⟩, false, []) else
  if ls.headD [] = bStar then (7, mkB (enc ls.tail), true, []) else (7, t, false, [])
theorem low_of_nm {t : ByteArray} {ls : Lb} (h : Nm t ls) : ∀ l ∈ ls, Low l := by
  intro l hl c hc
  refine h.2.2.1 c ?_
  rw [h.1]
  unfold enc
  rw [List.mem_flatMap]
  exact ⟨l, hl, by unfold encL; exact List.mem_cons_of_mem _ hc⟩
theorem make_back {t : ByteArray} {ls : Lb} (h : Nm t ls) : name_Make.f (ls.map mkB) = some (t, true) := by
  have e : (ls.map mkB).map foldL = ls := by
    rw [List.map_map]
    conv => rhs; rw [← List.map_id ls]
    refine List.map_congr_left (fun l hl => ?_)
    show foldL (mkB l) = l
    unfold foldL
    rw [B_mkB]
    exact low_map.2 (low_of_nm h l hl)
  have := make_nm (ls := ls.map mkB) (fun l hl => by
    obtain ⟨x, hx, rfl⟩ := List.mem_map.1 hl
    rw [B_mkB]; exact h.2.1 x hx) (by rw [e, h.length]; exact h.2.2.2)
  rw [e] at this
  rw [this.1, h.inj this.2]
theorem rd0 (l : List UInt8) (ls : Lb) : (rdOf ByteArray.empty ((l :: ls).map mkB) 0).toList = l := by
  rw [toList_B]
  show B (mkB l) = l
  exact B_mkB l
theorem beq_dec (l w : List UInt8) : (l == w) = decide (l = w) := by
  rw [Bool.eq_iff_iff, beq_iff_eq, decide_eq_true_eq]
theorem of_ev {t : ByteArray} {ls : Lb} (h : Nm t ls) : Ev (fun k => bolterlaw14_of.f k t) (ofGo t ls) := by
  obtain ⟨K, hK⟩ := labels_yes h
  dsimp only at hK
  refine ⟨K + 4, fun k hk => ?_⟩
  obtain ⟨m, rfl⟩ : ∃ m, k = m + 4 := ⟨k - 4, by omega⟩
  show bolterlaw14_of.f (m + 4) t = _
  unfold bolterlaw14_of.f
  rw [hK _ (by omega), Option.bind_some]
  match ls, h with
  | [], h => rfl
  | [l], h =>
    have e1 : (([l].map mkB).length : Int) = 1 := rfl
    dsimp only
    rw [e1, if_neg (by decide), if_pos rfl, if_pos (by decide), rd0]
    simp only [bolterlaw14_of.j0, bolterlaw14_of.j1, bolterlaw14_of.j2, bolterlaw14_of.j3, e1, rd0]
    have go : ofGo t [l] = if l = bStar then (5, ⟨#[]⟩, false, []) else if l = bPass then (2, ⟨#[]⟩, false, []) else if l = bDrop then (3, ⟨#[]⟩, false, []) else if l = bTcp then (6, ⟨#[]⟩, false, []) else (7, t, false, []) := by
      by_cases a : l = bStar
      · subst a; rfl
      rw [if_neg a]
      by_cases b : l = bPass
      · subst b; rfl
      rw [if_neg b]
      by_cases c : l = bDrop
      · subst c; rfl
      rw [if_neg c]
      by_cases d : l = bTcp
      · subst d; rfl
      rw [if_neg d]
      unfold ofGo
      rw [if_neg (by simp), if_neg (by simpa using a), if_neg (by simpa using b), if_neg (by simpa using c), if_neg (by simpa using d), if_neg (show ¬ [l].headD [] = bStar from a)]
    rw [go]
    by_cases a : l = bStar
    · rw [if_pos a, if_pos (show (l == [42]) = true by rw [beq_dec]; exact decide_eq_true a)]
    rw [if_neg a, if_neg (show ¬ (l == [42]) = true by rw [beq_dec]; simpa [bStar] using a), if_pos trivial, if_pos (by decide)]
    by_cases b : l = bPass
    · rw [if_pos b, if_pos (show (l == _) = true by rw [beq_dec]; exact decide_eq_true b)]
    rw [if_neg b, if_neg (show ¬ (l == [114, 112, 122, 45, 112, 97, 115, 115, 116, 104, 114, 117]) = true by rw [beq_dec]; simpa [bPass] using b), if_pos trivial, if_pos (by decide)]
    by_cases c : l = bDrop
    · rw [if_pos c, if_pos (show (l == _) = true by rw [beq_dec]; exact decide_eq_true c)]
    rw [if_neg c, if_neg (show ¬ (l == [114, 112, 122, 45, 100, 114, 111, 112]) = true by rw [beq_dec]; simpa [bDrop] using c), if_pos trivial, if_pos (by decide)]
    by_cases d : l = bTcp
    · rw [if_pos d, if_pos (show (l == _) = true by rw [beq_dec]; exact decide_eq_true d)]
    rw [if_neg d, if_neg (show ¬ (l == [114, 112, 122, 45, 116, 99, 112, 45, 111, 110, 108, 121]) = true by rw [beq_dec]; simpa [bTcp] using d), if_pos (by decide), if_neg (show ¬ l = [42] from a)]
  | l :: l2 :: r, h =>
    have e1 : ((((l :: l2 :: r).map mkB).length : Nat) : Int) = (r.length : Int) + 2 := by simp only [List.length_map, List.length_cons]; omega
    dsimp only
    rw [e1, if_neg (by omega), if_neg (by omega)]
    simp only [bolterlaw14_of.j0, bolterlaw14_of.j1, bolterlaw14_of.j2, bolterlaw14_of.j3, e1, rd0]
    have go : ofGo t (l :: l2 :: r) = if l = bStar then (7, mkB (enc (l2 :: r)), true, []) else (7, t, false, []) := by
      unfold ofGo
      rw [if_neg (by simp), if_neg (by simp), if_neg (by simp), if_neg (by simp), if_neg (by simp)]
      rfl
    rw [go]
    rw [if_neg Bool.false_ne_true, if_neg (by omega), if_neg Bool.false_ne_true, if_neg (by omega), if_neg Bool.false_ne_true, if_neg (by omega), if_neg Bool.false_ne_true, if_pos (by omega)]
    by_cases a : l = bStar
    · rw [if_pos (show l = [42] from a), if_pos (by omega), if_pos a]
      rw [show ((l :: l2 :: r).map mkB).drop 1 = (l2 :: r).map mkB from rfl, make_back h.tail, Option.bind_some]
    · rw [if_neg (show ¬ l = [42] from a), if_neg a]

/-! ### the goal -/
theorem goal_other {kind : Int} (hk : kind ≠ 7) (s : ByteArray) (wild : Bool) (l : List S43) (n : ByteArray) : Ev (fun k => action_Goal.f k kind s wild l n) ((⟨#[]⟩ : ByteArray), false) := by
  refine ⟨1, fun k hk1 => ?_⟩
  obtain ⟨m, rfl⟩ : ∃ m, k = m + 1 := ⟨k - 1, by omega⟩
  show action_Goal.f (m + 1) kind s wild l n = _
  unfold action_Goal.f
  rw [if_neg hk]
  rfl
theorem goal_none {s : ByteArray} (h : ∀ ls, ¬ Nm s ls) (wild : Bool) (l : List S43) (n : ByteArray) : Ev (fun k => action_Goal.f k 7 s wild l n) ((⟨#[]⟩ : ByteArray), false) := by
  obtain ⟨K, hK⟩ := may_no h
  dsimp only at hK
  refine ⟨K + 1, fun k hk1 => ?_⟩
  obtain ⟨m, rfl⟩ : ∃ m, k = m + 1 := ⟨k - 1, by omega⟩
  show action_Goal.f (m + 1) 7 s wild l n = _
  unfold action_Goal.f
  rw [if_pos rfl, hK _ (by omega), Option.bind_some]
  rfl
theorem goal_plain {s : ByteArray} {ls : Lb} (h : Nm s ls) (l : List S43) (n : ByteArray) : Ev (fun k => action_Goal.f k 7 s false l n) (s, true) := by
  obtain ⟨K, hK⟩ := may_yes h
  dsimp only at hK
  refine ⟨K + 1, fun k hk1 => ?_⟩
  obtain ⟨m, rfl⟩ : ∃ m, k = m + 1 := ⟨k - 1, by omega⟩
  show action_Goal.f (m + 1) 7 s false l n = _
  unfold action_Goal.f
  rw [if_pos rfl, hK _ (by omega), Option.bind_some]
  rfl
theorem goal_wild {s n : ByteArray} {ls ms : Lb} (h : Nm s ls) (hn : Nm n ms) (l : List S43) : Ev (fun k => action_Goal.f k 7 s true l n) (if n.size + s.size ≤ 254 then (n ++ s, true) else ((⟨#[]⟩ : ByteArray), false)) := by
  obtain ⟨K, hK⟩ := may_yes h
  have hj : Ev (fun k => name_Join.f k n s) (if n.size + s.size ≤ 254 then (n ++ s, true) else ((⟨#[]⟩ : ByteArray), false)) := by
    by_cases c : n.size + s.size ≤ 254
    · rw [if_pos c]; exact join_yes hn h c
    · rw [if_neg c]; exact join_long hn h (by omega)
  obtain ⟨J, hJ⟩ := hj
  dsimp only at hK hJ
  refine ⟨K + J + 1, fun k hk1 => ?_⟩
  obtain ⟨m, rfl⟩ : ∃ m, k = m + 1 := ⟨k - 1, by omega⟩
  show action_Goal.f (m + 1) 7 s true l n = _
  unfold action_Goal.f
  rw [if_pos rfl, hK _ (by omega), Option.bind_some]
  simp only [action_Goal.j0]
  rw [if_neg (by decide), if_pos trivial, hJ _ (by omega), Option.bind_some]
end Go.Proofs.Ytdkjlbbbdjkhbaa.ActA
