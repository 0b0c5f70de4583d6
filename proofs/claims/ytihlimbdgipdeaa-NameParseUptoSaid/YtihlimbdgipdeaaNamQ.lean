-- By hand: name.Parse in plain lists.
import Derived.Test.YtihlimbdgipdeaaNamP
set_option linter.unusedVariables false
namespace Go.Proofs.Ytihlimbdgipdeaa.NamL
open Go.RowKit Go.Proofs.Ytihlimbdgipdeaa.PPar Go.Proofs.Ytihlimbdgipdeaa.PNam Go.Proofs.Ytihlimbdgipdeaa.PBase0 Go.Proofs.Ytihlimbdgipdeaa.Hand Go.Proofs.YtihlimbdgipdeaaW.PrintWords Go.Proofs.YtihlimbdgipdeaaW.PrintLast

/-! ### Parse -/
theorem fold_f (c : Int) (h0 : 0 ≤ c) (h1 : c ≤ 255) : name_Fold.f c = some (if 65 ≤ c ∧ c ≤ 90 then c + 32 else c) := by
  unfold name_Fold.f
  split
  · split
    · rw [if_pos (by omega)]; congr 1; omega
    · rw [if_neg (by omega)]
  · rw [if_neg (by omega)]
def nums (l : List UInt8) : List Int := l.map fun b => (b.toNat : Int)
theorem nums_str (l : List UInt8) : strOfNums (nums l) = mkB l := by
  rw [strOfNums_mk]; unfold nums
  congr 1
  rw [List.map_map]
  conv => rhs; rw [← List.map_id l]
  apply List.map_congr_left
  intro c hc
  simp
theorem nums_append (a b : List UInt8) : nums (a ++ b) = nums a ++ nums b := by simp [nums]
theorem nums_length (a : List UInt8) : (nums a).length = a.length := by simp [nums]
/-- What is told of a text. -/
def Good (s : ByteArray) (r : ByteArray × Bool) : Prop := r = ((⟨#[]⟩ : ByteArray), false) ∨ ∃ n ms, r = (n, true) ∧ Nm n ms ∧ B s = B (textOf ms)
/-- The inner loop over three digits. -/
theorem digits (a0 : ByteArray) (x4 : List ByteArray) (x5 : List Int) (x6 : Int) (d1 d2 d3 : UInt8) :
    (∀ k, name_Parse.l1 (k + 4) a0 x4 x5 x6 0 [(d1.toNat : Int), (d2.toNat : Int), (d3.toNat : Int)] 3 0 = some ((⟨#[]⟩ : ByteArray), false)) ∨
       ∃ v : Nat, v ≤ 255 ∧ ¬ plainI (v : Int) = true ∧ ¬ (65 ≤ v ∧ v ≤ 90) ∧ d1.toNat = 48 + v / 100 ∧ d2.toNat = 48 + v / 10 % 10 ∧ d3.toNat = 48 + v % 10 ∧
        ∀ k, name_Parse.l1 (k + 4) a0 x4 x5 x6 0 [(d1.toNat : Int), (d2.toNat : Int), (d3.toNat : Int)] 3 0 = if x5.length < 140737488355328 then (name_Parse.l0 k a0 x4 (x5 ++ [(v : Int)]) (wrap64 ((wrap64 (x6 + 3)) + 1))) else none := by
  generalize d1.toNat = e1
  generalize d2.toNat = e2
  generalize d3.toNat = e3
  have r0 : rd [(e1 : Int), (e2 : Int), (e3 : Int)] 0 = e1 := rfl
  have r1 : rd [(e1 : Int), (e2 : Int), (e3 : Int)] 1 = e2 := rfl
  have r2 : rd [(e1 : Int), (e2 : Int), (e3 : Int)] 2 = e3 := rfl
  have lt : (([(e1 : Int), (e2 : Int), (e3 : Int)].length : Nat) : Int) = 3 := rfl
  have w1 : wrap64 ((0 : Int) + 1) = 1 := w64 (by decide) (by decide)
  have w2 : wrap64 ((1 : Int) + 1) = 2 := w64 (by decide) (by decide)
  have w3 : wrap64 ((2 : Int) + 1) = 3 := w64 (by decide) (by decide)
  generalize [(e1 : Int), (e2 : Int), (e3 : Int)] = ys at r0 r1 r2 lt
  have st : ∀ (k : Nat) (m : Int) (j : Int), 0 ≤ j → j < 3 → name_Parse.l1 (k + 1) a0 x4 x5 x6 m ys 3 j = if rd ys j < 48 then some ((⟨#[]⟩ : ByteArray), false) else if rd ys j > 57 then some ((⟨#[]⟩ : ByteArray), false) else name_Parse.l1 k a0 x4 x5 x6 (wrap64 ((wrap64 (m * 10)) + ((rd ys j - 48) % 256))) ys 3 (wrap64 (j + 1)) := by
    intro k m j h0 h1
    rw [name_Parse.l1, if_pos h1, if_pos h0, lt, if_pos h1]
  have s1 := fun k m => st k m 0 (by decide) (by decide)
  have s2 := fun k m => st k m 1 (by decide) (by decide)
  have s3 := fun k m => st k m 2 (by decide) (by decide)
  rw [r0, w1] at s1
  rw [r1, w2] at s2
  rw [r2, w3] at s3
  clear st r0 r1 r2 lt w1 w2 w3
  by_cases c1 : (e1 : Int) < 48
  · exact .inl fun k => by rw [s1, if_pos c1]
  by_cases c2 : (e1 : Int) > 57
  · exact .inl fun k => by rw [s1, if_neg c1, if_pos c2]
  obtain ⟨n1, rfl⟩ : ∃ n, e1 = 48 + n := ⟨e1 - 48, by omega⟩
  have q1 : (((48 + n1 : Nat) : Int) - 48) % 256 = (n1 : Int) := by omega
  have v1 : wrap64 ((wrap64 ((0 : Int) * 10)) + (n1 : Int)) = (n1 : Int) := by rw [w64 (n := (0 : Int) * 10) (by decide) (by decide), w64 (by omega) (by omega)]; omega
  by_cases c3 : (e2 : Int) < 48
  · exact .inl fun k => by rw [s1, if_neg c1, if_neg c2, q1, v1, s2, if_pos c3]
  by_cases c4 : (e2 : Int) > 57
  · exact .inl fun k => by rw [s1, if_neg c1, if_neg c2, q1, v1, s2, if_neg c3, if_pos c4]
  obtain ⟨n2, rfl⟩ : ∃ n, e2 = 48 + n := ⟨e2 - 48, by omega⟩
  have q2 : (((48 + n2 : Nat) : Int) - 48) % 256 = (n2 : Int) := by omega
  have v2 : wrap64 ((wrap64 ((n1 : Int) * 10)) + (n2 : Int)) = ((10 * n1 + n2 : Nat) : Int) := by rw [w64 (n := (n1 : Int) * 10) (by omega) (by omega), w64 (by omega) (by omega)]; omega
  by_cases c5 : (e3 : Int) < 48
  · exact .inl fun k => by rw [s1, if_neg c1, if_neg c2, q1, v1, s2, if_neg c3, if_neg c4, q2, v2, s3, if_pos c5]
  by_cases c6 : (e3 : Int) > 57
  · exact .inl fun k => by rw [s1, if_neg c1, if_neg c2, q1, v1, s2, if_neg c3, if_neg c4, q2, v2, s3, if_neg c5, if_pos c6]
  obtain ⟨n3, rfl⟩ : ∃ n, e3 = 48 + n := ⟨e3 - 48, by omega⟩
  have q3 : (((48 + n3 : Nat) : Int) - 48) % 256 = (n3 : Int) := by omega
  have v3 : wrap64 ((wrap64 (((10 * n1 + n2 : Nat) : Int) * 10)) + (n3 : Int)) = ((100 * n1 + 10 * n2 + n3 : Nat) : Int) := by rw [w64 (n := ((10 * n1 + n2 : Nat) : Int) * 10) (by omega) (by omega), w64 (by omega) (by omega)]; omega
  have all : ∀ k, name_Parse.l1 (k + 4) a0 x4 x5 x6 0 ys 3 0 = name_Parse.l1 (k + 1) a0 x4 x5 x6 ((100 * n1 + 10 * n2 + n3 : Nat) : Int) ys 3 3 := fun k => by
    rw [s1, if_neg c1, if_neg c2, q1, v1, s2, if_neg c3, if_neg c4, q2, v2, s3, if_neg c5, if_neg c6, q3, v3]
  have b1 : n1 ≤ 9 := by omega
  have b2 : n2 ≤ 9 := by omega
  have b3 : n3 ≤ 9 := by omega
  clear s1 s2 s3 q1 q2 q3 v1 v2 v3 c1 c2 c3 c4 c5 c6
  obtain ⟨v, hv⟩ : ∃ v : Nat, v = 100 * n1 + 10 * n2 + n3 := ⟨_, rfl⟩
  rw [← hv] at all
  have en : ∀ k, name_Parse.l1 (k + 1) a0 x4 x5 x6 (v : Int) ys 3 3 = if (v : Int) > 255 then some ((⟨#[]⟩ : ByteArray), false) else if plainI ((v : Int) % 256) = true then some ((⟨#[]⟩ : ByteArray), false) else (name_Fold.f ((v : Int) % 256)).bind fun t115 => if t115 = (v : Int) % 256 then (if x5.length < 140737488355328 then (name_Parse.l0 k a0 x4 (x5 ++ [(v : Int) % 256]) (wrap64 ((wrap64 (x6 + 3)) + 1))) else none) else some ((⟨#[]⟩ : ByteArray), false) := fun k => by
    rw [name_Parse.l1, if_neg (by decide), plain_eq, Option.bind_some]
  by_cases c7 : (v : Int) > 255
  · exact .inl fun k => by rw [all, en, if_pos c7]
  have hm : (v : Int) % 256 = v := by omega
  rw [hm] at en
  by_cases c8 : plainI (v : Int) = true
  · exact .inl fun k => by rw [all, en, if_neg c7, if_pos c8]
  have ff := fold_f (v : Int) (by omega) (by omega)
  by_cases c9 : 65 ≤ (v : Int) ∧ (v : Int) ≤ 90
  · exact .inl fun k => by rw [all, en, if_neg c7, if_neg c8, ff, Option.bind_some, if_pos c9, if_neg (by omega)]
  refine .inr ⟨v, by omega, c8, by omega, by omega, by omega, by omega, fun k => ?_⟩
  rw [all, en, if_neg c7, if_neg c8, ff, Option.bind_some, if_neg c9, if_pos rfl]
theorem wrap_34 (i : Nat) (h : i ≤ 1000000000) : wrap64 ((wrap64 ((i : Int) + 3)) + 1) = ((i + 4 : Nat) : Int) := by
  have h1 : wrap64 ((i : Int) + 3) = (i : Int) + 3 := w64 (by omega) (by omega)
  have h2 : wrap64 ((i : Int) + 3 + 1) = (i : Int) + 3 + 1 := w64 (by omega) (by omega)
  rw [h1, h2]; omega
theorem par_arith (n i d a b : Nat) (hs : n ≤ 1000000000) (hd : n = i + d) (h3 : i + 3 < n) (h1 : a ≤ i) (h2 : b ≤ i) : d - 4 < d ∧ n = i + 4 + (d - 4) ∧ a ≤ i + 4 ∧ b + 1 ≤ i + 4 ∧ b < 140737488355328 := by omega
theorem toNat_ofNat8 {v : Nat} (h : v ≤ 255) : (UInt8.ofNat v).toNat = v := by
  rw [UInt8.toNat_ofNat']
  omega
theorem escL_esc (l : List UInt8) {v : Nat} (h : v ≤ 255) (hp : ¬ plainI (v : Int) = true) {d1 d2 d3 : UInt8} (e1 : d1.toNat = 48 + v / 100) (e2 : d2.toNat = 48 + v / 10 % 10) (e3 : d3.toNat = 48 + v % 10) :
    escL (l ++ [UInt8.ofNat v]) = escL l ++ [92, d1, d2, d3] := by
  have hvn := toNat_ofNat8 h
  rw [escL_append, escL_cons, escB_esc (by rw [hvn]; exact hp), hvn, ← e1, ← e2, ← e3, UInt8.ofNat_toNat, UInt8.ofNat_toNat, UInt8.ofNat_toNat]
  rfl
theorem parse_loop (a0 : ByteArray) (hs : a0.size ≤ 1000000000) : ∀ (d i : Nat) (ls : List ByteArray) (l : List UInt8), a0.size = i + d → ls.length ≤ i → l.length ≤ i → (∀ x ∈ ls, Low (B x)) → Low l →
    (B a0).take i = textB ls ++ escL l → (i = 0 → B a0 ≠ [46]) →
    ∃ r K, (∀ k, K ≤ k → name_Parse.l0 k a0 ls (nums l) (i : Int) = some r) ∧ Good a0 r := by
  intro d
  induction d using Nat.strongRecOn with
  | _ d ih =>
  intro i ls l hd hl1 hl2 hlow hlowl ht hne
  have bad : ∀ (f : Nat → Option (ByteArray × Bool)), (∀ k, f (k + 1) = some ((⟨#[]⟩ : ByteArray), false)) → ∃ r K, (∀ k, K ≤ k → f k = some r) ∧ Good a0 r := fun f hf => ⟨_, 1, fun k hk => by
    obtain ⟨k, rfl⟩ : ∃ m, k = m + 1 := ⟨k - 1, by omega⟩
    exact hf k, .inl rfl⟩
  by_cases hlt : i < a0.size
  · have hi : i < (B a0).length := by rw [B_length]; omega
    have hb := bt_B a0 i hi
    have hw : wrap64 ((i : Int) + 1) = ((i + 1 : Nat) : Int) := by rw [w64 (by omega) (by omega)]; omega
    have htake := List.take_succ_eq_append_getElem hi
    have hc255 := ((B a0)[i]).toNat_lt
    generalize hcd : (B a0)[i] = c at hb htake hc255
    have head : ∀ k, name_Parse.l0 (k + 1) a0 ls (nums l) (i : Int) = if (c.toNat : Int) = 46 then name_Parse.l0 k a0 (ls ++ [mkB l]) ([] : List Int) ((i + 1 : Nat) : Int)
        else if plainI (c.toNat : Int) = true then name_Parse.l0 k a0 ls (nums l ++ [(c.toNat : Int)]) ((i + 1 : Nat) : Int)
        else if (c.toNat : Int) = 92 then name_Parse.j1 k a0 ls (nums l) (i : Int) (decide (((i + 3 : Nat) : Int) < (a0.size : Int))) else name_Parse.j1 k a0 ls (nums l) (i : Int) false := by
      intro k
      have hw3 : wrap64 ((i : Int) + 3) = ((i + 3 : Nat) : Int) := by rw [w64 (by omega) (by omega)]; omega
      rw [name_Parse.l0, if_pos (show (i : Int) < (a0.size : Int) by omega), if_pos (show 0 ≤ (i : Int) by omega), hb, if_pos (show ls.length < 8796093022208 by omega), nums_str, hw, plain_eq, Option.bind_some, if_pos (show (nums l).length < 140737488355328 by rw [nums_length]; omega), hw3]
    by_cases dot : (c.toNat : Int) = 46
    · have hc : c = 46 := UInt8.toNat_inj.1 (by show c.toNat = 46; omega)
      obtain ⟨r, K, hK, hg⟩ := ih (d - 1) (by omega) (i + 1) (ls ++ [mkB l]) [] (by omega) (by simp; omega) (by simp) (by
        intro x hx
        rcases List.mem_append.1 hx with hx | hx
        · exact hlow x hx
        · rw [List.mem_singleton.1 hx, B_mkB]; exact hlowl) (by intro x hx; cases hx) (by
        rw [htake, ht, textB_append, hc, textB_cons, B_mkB]
        simp [textB, escL]) (fun h => by omega)
      refine ⟨r, K + 1, fun k hk => ?_, hg⟩
      obtain ⟨k, rfl⟩ : ∃ m, k = m + 1 := ⟨k - 1, by omega⟩
      rw [head, if_pos dot]
      exact hK k (by omega)
    by_cases pl : plainI (c.toNat : Int) = true
    · have hq := (plainI_iff _).1 pl
      obtain ⟨r, K, hK, hg⟩ := ih (d - 1) (by omega) (i + 1) ls (l ++ [c]) (by omega) (by omega) (by simp; omega) hlow (by
        rw [low_append]
        refine ⟨hlowl, fun x hx => ?_⟩
        obtain rfl := List.mem_singleton.1 hx
        omega) (by
        rw [htake, ht, escL_append, List.append_assoc]
        congr 2
        rw [escL_cons, escB_plain pl]; rfl) (fun h => by omega)
      refine ⟨r, K + 1, fun k hk => ?_, hg⟩
      obtain ⟨k, rfl⟩ : ∃ m, k = m + 1 := ⟨k - 1, by omega⟩
      rw [head, if_neg dot, if_pos pl]
      have := hK k (by omega)
      rw [nums_append] at this
      exact this
    by_cases bs : (c.toNat : Int) = 92 ∧ i + 3 < a0.size
    · have hc : c = 92 := UInt8.toNat_inj.1 (by have := bs.1; show c.toNat = 92; omega)
      have hw4 : wrap64 ((i : Int) + 4) = ((i + 4 : Nat) : Int) := by rw [w64 (by omega) (by omega)]; omega
      have h1 : i + 1 < (B a0).length := by rw [B_length]; omega
      have h2 : i + 2 < (B a0).length := by rw [B_length]; omega
      have h3 : i + 3 < (B a0).length := by rw [B_length]; omega
      have hex : bytesOf (a0.extract (((i + 1 : Nat) : Int)).toNat (((i + 4 : Nat) : Int)).toNat) = [((B a0)[i + 1].toNat : Int), ((B a0)[i + 2].toNat : Int), ((B a0)[i + 3].toNat : Int)] := by
        rw [Int.toNat_natCast, Int.toNat_natCast]
        show (B (a0.extract (i + 1) (i + 4))).map (fun b => (b.toNat : Int)) = _
        rw [B_extract, show i + 4 - (i + 1) = 3 by omega, List.drop_eq_getElem_cons h1, List.drop_eq_getElem_cons h2, List.drop_eq_getElem_cons h3]
        rfl
      have t1 := List.take_succ_eq_append_getElem h1
      have t2 := List.take_succ_eq_append_getElem h2
      have t3 := List.take_succ_eq_append_getElem h3
      generalize (B a0)[i + 1] = d1 at hex t1
      generalize (B a0)[i + 2] = d2 at hex t2
      generalize (B a0)[i + 3] = d3 at hex t3
      have lt3 : ∀ a b c : Int, (([a, b, c].length : Nat) : Int) = 3 := fun _ _ _ => rfl
      have jj : ∀ k, name_Parse.l0 (k + 2) a0 ls (nums l) (i : Int) = name_Parse.l1 k a0 ls (nums l) (i : Int) 0 [(d1.toNat : Int), (d2.toNat : Int), (d3.toNat : Int)] 3 0 := by
        intro k
        rw [head, if_neg dot, if_neg pl, if_pos bs.1, decide_eq_true (show ((i + 3 : Nat) : Int) < (a0.size : Int) by omega), name_Parse.j1, if_pos rfl, hw, hw4, if_pos (show (0 : Int) ≤ ((i + 1 : Nat) : Int) by omega), if_pos (show ((i + 1 : Nat) : Int) ≤ ((i + 4 : Nat) : Int) by omega), if_pos (show ((i + 4 : Nat) : Int) ≤ (a0.size : Int) by omega), hex, Option.bind_some, lt3]
      have hw5 := wrap_34 i (by omega)
      obtain ⟨o1, o2, o3, o4, o5⟩ := par_arith a0.size i d ls.length l.length hs hd bs.2 hl1 hl2
      rw [← nums_length l] at o5
      rcases digits a0 ls (nums l) (i : Int) d1 d2 d3 with hr | ⟨v, v1, v2, v3, e1, e2, e3, hr⟩
      · refine ⟨((⟨#[]⟩ : ByteArray), false), 6, fun k hk => ?_, .inl rfl⟩
        obtain ⟨k, rfl⟩ := Nat.exists_eq_add_of_le' hk
        rw [show k + 6 = (k + 4) + 2 from rfl, jj]
        exact hr k
      · have hvn := toNat_ofNat8 v1
        obtain ⟨r, K, hK, hg⟩ := ih (d - 4) o1 (i + 4) ls (l ++ [UInt8.ofNat v]) o2 o3 (by rw [List.length_append]; exact o4) hlow (by
          rw [low_append]
          refine ⟨hlowl, fun x hx => ?_⟩
          obtain rfl := List.mem_singleton.1 hx
          rw [hvn]; exact v3) (by
          have hes := escL_esc l v1 v2 e1 e2 e3
          rw [show i + 4 = i + 3 + 1 from rfl, t3, show i + 3 = i + 2 + 1 from rfl, t2, show i + 2 = i + 1 + 1 from rfl, t1, htake, ht, hes, hc]
          simp only [List.append_assoc, List.cons_append, List.nil_append]) (fun h => by cases h)
        refine ⟨r, K + 6, fun k hk => ?_, hg⟩
        obtain ⟨k, rfl⟩ := Nat.exists_eq_add_of_le' (Nat.le_trans (Nat.le_add_left 6 K) hk)
        have hk2 : K ≤ k := Nat.le_of_add_le_add_right hk
        rw [show k + 6 = (k + 4) + 2 from rfl, jj, hr, if_pos o5, hw5]
        have := hK k hk2
        rw [nums_append] at this
        have hvs : nums [UInt8.ofNat v] = [(v : Int)] := by show [((UInt8.ofNat v).toNat : Int)] = _; rw [hvn]
        rw [hvs] at this
        exact this
    · refine ⟨_, 2, fun k hk => ?_, .inl rfl⟩
      obtain ⟨k, rfl⟩ : ∃ m, k = m + 2 := ⟨k - 2, by omega⟩
      rw [head, if_neg dot, if_neg pl]
      by_cases b1 : (c.toNat : Int) = 92
      · rw [if_pos b1, decide_eq_false (show ¬ ((i + 3 : Nat) : Int) < (a0.size : Int) from fun h => bs ⟨b1, by omega⟩), name_Parse.j1, if_neg (by decide)]
      · rw [if_neg b1, name_Parse.j1, if_neg (by decide)]
  · have hi : i = a0.size := by omega
    have ht2 : B a0 = textB ls ++ escL l := by rw [← ht, List.take_of_length_le (by rw [B_length]; omega)]
    have en : ∀ k, name_Parse.l0 (k + 1) a0 ls (nums l) (i : Int) = if ((nums l).length : Int) > 0 then some ((⟨#[]⟩ : ByteArray), false) else if (ls.length : Int) = 0 then some ((⟨#[]⟩ : ByteArray), false) else (name_Make.f ls).bind fun bt101 => some (bt101.1, bt101.2) := fun k => by
      rw [name_Parse.l0, if_neg (show ¬ (i : Int) < (a0.size : Int) by omega)]
    by_cases c1 : ((nums l).length : Int) > 0
    · exact bad _ fun k => by rw [en, if_pos c1]
    by_cases c2 : (ls.length : Int) = 0
    · exact bad _ fun k => by rw [en, if_neg c1, if_pos c2]
    have hl0 : l = [] := List.eq_nil_of_length_eq_zero (by rw [nums_length] at c1; omega)
    by_cases c3 : (∀ x ∈ ls, Ok (B x)) ∧ (enc (ls.map foldL)).length ≤ 254
    · obtain ⟨m1, m2⟩ := make_nm c3.1 c3.2
      refine ⟨_, 1, fun k hk => ?_, .inr ⟨_, _, rfl, m2, ?_⟩⟩
      · obtain ⟨k, rfl⟩ : ∃ m, k = m + 1 := ⟨k - 1, by omega⟩
        rw [en, if_neg c1, if_neg c2, m1, Option.bind_some]
      · have e1 : ls.map foldL = ls.map B := List.map_congr_left fun x hx => foldL_low (hlow x hx)
        have e2 : (ls.map B).map mkB = ls := by
          rw [List.map_map]
          conv => rhs; rw [← List.map_id ls]
          exact List.map_congr_left fun x _ => mkB_B x
        unfold textOf
        rw [e1, if_neg (fun e => c2 (by rw [List.map_eq_nil_iff] at e; rw [e]; rfl)), e2, B_mkB, ht2, hl0]
        simp [escL]
    · exact bad _ fun k => by rw [en, if_neg c1, if_neg c2, make_none (by omega) c3, Option.bind_some]
theorem parse_ev (a0 : ByteArray) (hs : a0.size ≤ 1000000000) : ∃ r, Ev (fun k => name_Parse.f k a0) r ∧ Good a0 r := by
  by_cases c : a0.toList = ([46] : List UInt8)
  · refine ⟨((⟨#[]⟩ : ByteArray), true), ⟨0, fun k _ => ?_⟩, .inr ⟨_, _, rfl, Nm.nil, ?_⟩⟩
    · show name_Parse.f k a0 = _
      unfold name_Parse.f
      rw [if_pos c]
    · rw [toList_B] at c
      rw [c]; rfl
  · obtain ⟨r, K, hK, hg⟩ := parse_loop a0 hs a0.size 0 [] [] (by omega) (by simp) (by simp) (by simp) (by intro x hx; cases hx) (by simp [textB, escL]) (by rw [toList_B] at c; exact fun _ => c)
    refine ⟨r, ⟨K, fun k hk => ?_⟩, hg⟩
    show name_Parse.f k a0 = _
    unfold name_Parse.f
    rw [if_neg c]
    exact hK k hk
end Go.Proofs.Ytihlimbdgipdeaa.NamL
