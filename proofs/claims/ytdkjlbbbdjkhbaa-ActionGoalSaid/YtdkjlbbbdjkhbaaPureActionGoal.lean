/- A name is rewritten to the target, or, if that is wild, to itself ahead of it: for every target, name and text. -/
import Derived.Test.YtdkjlbbbdjkhbaaPAllx47
import Derived.Test.YtdkjlbbbdjkhbaaActA
set_option linter.unusedVariables false
namespace Go.Proofs.Ytdkjlbbbdjkhbaa.Pure
open Go.RowKit Go.Proofs.Ytdkjlbbbdjkhbaa.PAll Go.Proofs.Ytdkjlbbbdjkhbaa.Hand Go.Proofs.Ytdkjlbbbdjkhbaa.NamL Go.Proofs.Ytdkjlbbbdjkhbaa.ActA Go.Proofs.YtdkjlbbbdjkhbaaW.PrintWords Go.Proofs.YtdkjlbbbdjkhbaaW.PrintLast
theorem awake14 : Ev (fun k => bolterlaw14_awake.f k) true := Ev.of (k := 12) (fun k => bolterlaw14_awake.mono k) (by decide +kernel)
theorem tl_refl (s : ByteArray) : (s.toList == s.toList) = true := by simp
theorem nil_tl : ((⟨#[]⟩ : ByteArray).toList) = ([] : List UInt8) := by rw [toList_B]; rfl
/-- The second goal: of a text that is any. -/
theorem second (raw n : ByteArray) (ms : Lb) (hn : Nm n ms) (odd : Bool) : ∃ (h : ByteArray) (is may : Bool), Ev (fun k => action_Goal.f k 7 raw odd ([] : List S43) n) (h, is) ∧ Ev (fun k => name_May.f k raw) may ∧
    ((may = true ∧ odd = false ∧ is = true ∧ h = raw) ∨ (may = true ∧ odd = true ∧ n.size + raw.size ≤ 254 ∧ is = true ∧ h = n ++ raw) ∨ (may = true ∧ odd = true ∧ 254 < n.size + raw.size ∧ raw.size ≤ 254 ∧ is = false ∧ h = ⟨#[]⟩) ∨ (may = false ∧ is = false ∧ h = ⟨#[]⟩)) := by
  rcases nm_or raw with ⟨ls, h⟩ | h
  · cases odd
    · exact ⟨_, _, _, goal_plain h _ _, may_yes h, .inl ⟨rfl, rfl, rfl, rfl⟩⟩
    · have g := goal_wild h hn ([] : List S43)
      by_cases c : n.size + raw.size ≤ 254
      · rw [if_pos c] at g
        exact ⟨_, _, _, g, may_yes h, .inr (.inl ⟨rfl, rfl, c, rfl, rfl⟩)⟩
      · rw [if_neg c] at g
        exact ⟨_, _, _, g, may_yes h, .inr (.inr (.inl ⟨rfl, rfl, by omega, h.2.2.2, rfl, rfl⟩))⟩
  · exact ⟨_, _, _, goal_none h _ _ _, may_no h, .inr (.inr (.inr ⟨rfl, rfl, rfl⟩))⟩
theorem odd_tmod (a : Int) (h : 0 ≤ a) : (Int.tmod a 2 = 0 ∧ (Int.tmod a 2 == 1) = false) ∨ (Int.tmod a 2 = 1 ∧ (Int.tmod a 2 == 1) = true) := by
  have h0 := Int.tmod_nonneg 2 h
  have h1 := Int.tmod_lt_of_pos a (show (0 : Int) < 2 by decide)
  rcases (show Int.tmod a 2 = 0 ∨ Int.tmod a 2 = 1 by omega) with e | e
  · exact .inl ⟨e, by rw [e]; rfl⟩
  · exact .inr ⟨e, by rw [e]; rfl⟩
theorem wrap_sum (a b : Nat) (ha : a ≤ 254) (hb : b ≤ 254) : wrap64 ((a : Int) + (b : Int)) = (a : Int) + (b : Int) := w64 (by omega) (by omega)
theorem goal_join (k : Nat) (a0 : Int) (l1 l2 : List Int) (a3 : Int) (a4 t n : ByteArray) (kind : Int) (tgt : ByteArray) (wild : Bool) (g1 : ByteArray) (ok1 : Bool) (h : ByteArray) (is may : Bool) (b3 : 0 ≤ a3) (sn : n.size ≤ 254) (st : tgt.size ≤ 254) (s4 : a4.size ≤ 140737488351232)
    (hA : bolterlaw14_awake.f k = some true) (hT : bolterlaw14_Target.f k a0 l1 = some t) (hO : bolterlaw14_of.f k t = some (kind, tgt, wild, [])) (hN : bolterlaw02_Name.f k l2 = some n)
    (hG : action_Goal.f k kind tgt wild ([] : List S43) n = some (g1, ok1)) (hS : action_Goal.f k 7 a4 (Int.tmod a3 2 == 1) ([] : List S43) n = some (h, is)) (hM : name_May.f k a4 = some may)
    (hc : (kind ≠ 7 ∧ g1 = ⟨#[]⟩ ∧ ok1 = false) ∨ (kind = 7 ∧ wild = true ∧ g1 = n ++ tgt ∧ ok1 = true) ∨ (kind = 7 ∧ wild = false ∧ g1 = tgt ∧ ok1 = true))
    (hs : (may = true ∧ (Int.tmod a3 2 == 1) = false ∧ is = true ∧ h = a4) ∨ (may = true ∧ (Int.tmod a3 2 == 1) = true ∧ n.size + a4.size ≤ 254 ∧ is = true ∧ h = n ++ a4) ∨ (may = true ∧ (Int.tmod a3 2 == 1) = true ∧ 254 < n.size + a4.size ∧ a4.size ≤ 254 ∧ is = false ∧ h = ⟨#[]⟩) ∨ (may = false ∧ is = false ∧ h = ⟨#[]⟩)) :
    bolterlaw14_ActionGoal.f k a0 l1 l2 a3 a4 = some true := by
  unfold bolterlaw14_ActionGoal.f
  rw [hA, Option.bind_some, if_pos rfl, hT, Option.bind_some, hO, Option.bind_some, hN, Option.bind_some]
  dsimp only
  rw [hG, Option.bind_some]
  dsimp only
  have z := nil_tl
  have lim : n.size + a4.size ≤ 9223372036854775807 := by omega
  have lim2 : n.size + tgt.size ≤ 9223372036854775807 := by omega
  have od := odd_tmod a3 b3
  rcases hc with ⟨c1, rfl, rfl⟩ | ⟨rfl, rfl, rfl, rfl⟩ | ⟨rfl, rfl, rfl, rfl⟩
  · rw [if_neg c1, if_pos z]
    rfl
  · rw [if_pos rfl, if_pos rfl, if_pos lim2, hS, Option.bind_some, hM, Option.bind_some]
    dsimp only
    rcases hs with ⟨rfl, o, rfl, rfl⟩ | ⟨rfl, o, hsz, rfl, rfl⟩ | ⟨rfl, o, hsz, hsz2, rfl, rfl⟩ | ⟨rfl, rfl, rfl⟩
    · have o2 : Int.tmod a3 2 = 0 := by rcases od with ⟨e, _⟩ | ⟨_, e⟩; · exact e
                                        · rw [e] at o; cases o
      have o3 : ¬ Int.tmod a3 2 = 1 := by omega
      rw [if_pos rfl, if_pos o2, if_pos rfl, if_pos rfl, if_pos rfl, if_pos (show (true == true) = true from rfl), if_neg o3, tl_refl]
    · have o2 : Int.tmod a3 2 = 1 := by rcases od with ⟨_, e⟩ | ⟨e, _⟩; · rw [e] at o; cases o
                                        · exact e
      have o3 : ¬ Int.tmod a3 2 = 0 := by omega
      have w1 := wrap_sum a4.size n.size (by omega) (by omega)
      rw [if_pos rfl, if_neg o3, if_pos rfl, if_pos rfl, w1, if_pos (show (true == decide ((a4.size : Int) + (n.size : Int) ≤ 254)) = true by rw [decide_eq_true (by omega)]; rfl), if_pos rfl, if_pos o2, if_pos lim, if_pos rfl]
    · have o2 : Int.tmod a3 2 = 1 := by rcases od with ⟨_, e⟩ | ⟨e, _⟩; · rw [e] at o; cases o
                                        · exact e
      have o3 : ¬ Int.tmod a3 2 = 0 := by omega
      have w1 := wrap_sum a4.size n.size (by omega) (by omega)
      rw [if_pos rfl, if_neg o3, if_pos rfl, if_pos rfl, w1, if_pos (show (false == decide ((a4.size : Int) + (n.size : Int) ≤ 254)) = true by rw [decide_eq_false (by omega)]; rfl), if_neg Bool.false_ne_true, if_pos z]
    · rw [if_neg Bool.false_ne_true, if_pos rfl, if_pos rfl, if_pos (show (false == false) = true from rfl), if_neg Bool.false_ne_true, if_pos z]
  · rw [if_pos rfl, if_neg Bool.false_ne_true, hS, Option.bind_some, hM, Option.bind_some]
    dsimp only
    rcases hs with ⟨rfl, o, rfl, rfl⟩ | ⟨rfl, o, hsz, rfl, rfl⟩ | ⟨rfl, o, hsz, hsz2, rfl, rfl⟩ | ⟨rfl, rfl, rfl⟩
    · have o2 : Int.tmod a3 2 = 0 := by rcases od with ⟨e, _⟩ | ⟨_, e⟩; · exact e
                                        · rw [e] at o; cases o
      have o3 : ¬ Int.tmod a3 2 = 1 := by omega
      rw [if_pos rfl, if_pos o2, if_pos rfl, if_pos rfl, if_pos rfl, if_pos (show (true == true) = true from rfl), if_neg o3, tl_refl]
    · have o2 : Int.tmod a3 2 = 1 := by rcases od with ⟨_, e⟩ | ⟨e, _⟩; · rw [e] at o; cases o
                                        · exact e
      have o3 : ¬ Int.tmod a3 2 = 0 := by omega
      have w1 := wrap_sum a4.size n.size (by omega) (by omega)
      rw [if_pos rfl, if_neg o3, if_pos rfl, if_pos rfl, w1, if_pos (show (true == decide ((a4.size : Int) + (n.size : Int) ≤ 254)) = true by rw [decide_eq_true (by omega)]; rfl), if_pos rfl, if_pos o2, if_pos lim, if_pos rfl]
    · have o2 : Int.tmod a3 2 = 1 := by rcases od with ⟨_, e⟩ | ⟨e, _⟩; · rw [e] at o; cases o
                                        · exact e
      have o3 : ¬ Int.tmod a3 2 = 0 := by omega
      have w1 := wrap_sum a4.size n.size (by omega) (by omega)
      rw [if_pos rfl, if_neg o3, if_pos rfl, if_pos rfl, w1, if_pos (show (false == decide ((a4.size : Int) + (n.size : Int) ≤ 254)) = true by rw [decide_eq_false (by omega)]; rfl), if_neg Bool.false_ne_true, if_pos z]
    · rw [if_neg Bool.false_ne_true, if_pos rfl, if_pos rfl, if_pos (show (false == false) = true from rfl), if_neg Bool.false_ne_true, if_pos z]
/-- What a target means is no rewriting, or one to a name that is no longer. -/
theorem ofGo_cases {t : ByteArray} {ls : Lb} (h : Nm t ls) : ((ofGo t ls).1 ≠ 7 ∧ (ofGo t ls).2.2.2 = [] ∧ (ofGo t ls).2.1.size ≤ 254) ∨ (∃ rest, ofGo t ls = (7, mkB (enc rest), true, []) ∧ Nm (mkB (enc rest)) rest ∧ (mkB (enc rest)).size ≤ t.size) ∨ ofGo t ls = (7, t, false, []) := by
  unfold ofGo
  by_cases c0 : ls.length = 0
  · rw [if_pos c0]; exact .inl ⟨by decide, rfl, by decide⟩
  rw [if_neg c0]
  by_cases c1 : ls = [bStar]
  · rw [if_pos c1]; exact .inl ⟨by decide, rfl, by decide⟩
  rw [if_neg c1]
  by_cases c2 : ls = [bPass]
  · rw [if_pos c2]; exact .inl ⟨by decide, rfl, by decide⟩
  rw [if_neg c2]
  by_cases c3 : ls = [bDrop]
  · rw [if_pos c3]; exact .inl ⟨by decide, rfl, by decide⟩
  rw [if_neg c3]
  by_cases c4 : ls = [bTcp]
  · rw [if_pos c4]; exact .inl ⟨by decide, rfl, by decide⟩
  rw [if_neg c4]
  by_cases c5 : ls.headD [] = bStar
  · rw [if_pos c5]
    match ls, h, c0 with
    | l :: r, h, _ =>
      refine .inr (.inl ⟨r, rfl, h.tail, ?_⟩)
      rw [mkB_size, ← h.length, enc_cons, List.length_append]
      omega
  · rw [if_neg c5]; exact .inr (.inr rfl)
theorem ActionGoal : bolterlaw14_ActionGoal.Pure := by
  intro a0 l1 l2 a3 a4 h0 _ hl1 hx1 _ hl2 hx2 h3 h4
  obtain ⟨KA, hA⟩ := awake14
  obtain ⟨⟨KT, hT⟩, nT, sT⟩ := target_ev a0 l1 h0 hl1 hx1
  obtain ⟨KO, hO⟩ := of_ev nT
  obtain ⟨⟨KN, hN⟩, nN⟩ := name_ev l2 hl2 hx2
  have sN := lbs_size l2 hx2
  have ⟨b3, _⟩ := u8b h3
  have zT : (mkB (enc (tlbs a0 l1))).size ≤ 84 := by rw [mkB_size]; exact sT
  have zN : (mkB (enc (lbs l2))).size ≤ 84 := by rw [mkB_size]; exact sN
  generalize (mkB (enc (tlbs a0 l1))) = t at *
  generalize (mkB (enc (lbs l2))) = n at *
  obtain ⟨h, is, may, ⟨KS, hS⟩, ⟨KM, hM⟩, hs⟩ := second a4 n _ nN (Int.tmod a3 2 == 1)
  dsimp only at hA hT hO hN hS hM
  have fin : ∀ (kind : Int) (tgt : ByteArray) (wild : Bool) (g1 : ByteArray) (ok1 : Bool), ofGo t (tlbs a0 l1) = (kind, tgt, wild, []) → tgt.size ≤ 254 → Ev (fun k => action_Goal.f k kind tgt wild ([] : List S43) n) (g1, ok1) →
      ((kind ≠ 7 ∧ g1 = ⟨#[]⟩ ∧ ok1 = false) ∨ (kind = 7 ∧ wild = true ∧ g1 = n ++ tgt ∧ ok1 = true) ∨ (kind = 7 ∧ wild = false ∧ g1 = tgt ∧ ok1 = true)) → ∃ k, bolterlaw14_ActionGoal.f k a0 l1 l2 a3 a4 = some true := by
    intro kind tgt wild g1 ok1 he hz ⟨KG, hG⟩ hc
    dsimp only at hG
    refine ⟨KA + KT + KO + KN + KS + KM + KG, goal_join _ a0 l1 l2 a3 a4 t n kind tgt wild g1 ok1 h is may b3 (by omega) hz h4 (hA _ (by omega)) (hT _ (by omega)) (by rw [hO _ (by omega), he]) (hN _ (by omega)) (hG _ (by omega)) (hS _ (by omega)) (hM _ (by omega)) hc hs⟩
  rcases ofGo_cases nT with ⟨c1, c2, c3⟩ | ⟨rest, e, hn, hz⟩ | e
  · have e : ofGo t (tlbs a0 l1) = ((ofGo t (tlbs a0 l1)).1, (ofGo t (tlbs a0 l1)).2.1, (ofGo t (tlbs a0 l1)).2.2.1, []) := by rw [← c2]
    exact fin _ _ _ _ _ e c3 (goal_other c1 _ _ _ _) (.inl ⟨c1, rfl, rfl⟩)
  · have g := goal_wild hn nN ([] : List S43)
    rw [if_pos (by omega)] at g
    exact fin _ _ _ _ _ e (by omega) g (.inr (.inl ⟨rfl, rfl, rfl, rfl⟩))
  · exact fin _ _ _ _ _ e (by omega) (goal_plain nT _ _) (.inr (.inr ⟨rfl, rfl, rfl, rfl⟩))
end Go.Proofs.Ytdkjlbbbdjkhbaa.Pure
