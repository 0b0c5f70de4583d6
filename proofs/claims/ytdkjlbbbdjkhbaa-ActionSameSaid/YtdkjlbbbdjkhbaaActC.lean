/- What actions are, and when two are the same, in plain words. -/
import Derived.Test.YtdkjlbbbdjkhbaaActA
import Derived.Test.YtdkjlbbbdjkhbaaActB
import Derived.Test.YtdkjlbbbdjkhbaaRecA
import Derived.Test.YtdkjlbbbdjkhbaaPAllx44
import Derived.Test.YtdkjlbbbdjkhbaaPAllx45
import Derived.Test.YtdkjlbbbdjkhbaaPAllx48
set_option linter.unusedVariables false
namespace Go.Proofs.Ytdkjlbbbdjkhbaa.ActA
open Go.RowKit Go.Proofs.Ytdkjlbbbdjkhbaa.PAll Go.Proofs.Ytdkjlbbbdjkhbaa.Hand Go.Proofs.Ytdkjlbbbdjkhbaa.NamL Go.Proofs.Ytdkjlbbbdjkhbaa.RecA Go.Proofs.YtdkjlbbbdjkhbaaW.PrintWords Go.Proofs.YtdkjlbbbdjkhbaaW.PrintLast Go.Proofs.YtdkjlbbbdjkhbaaW.PrintMore
theorem awake14 : Ev (fun k => bolterlaw14_awake.f k) true := Ev.of (k := 12) (fun k => bolterlaw14_awake.mono k) (by decide +kernel)

/-! ### the target -/
theorem word_made (p : Int × List ByteArray) (hp : p ∈ wordsL) : (makeGo p.2 []).1 = mkB (enc (p.2.map B)) ∧ Nm (mkB (enc (p.2.map B))) (p.2.map B) := by
  have ok : ∀ q ∈ wordsL, (∀ l ∈ q.2, Ok (B l)) ∧ (enc (q.2.map foldL)).length ≤ 254 ∧ q.2.map foldL = q.2.map B := by decide +kernel
  have ln : ∀ q ∈ wordsL, q.2.length ≤ 140737488351232 := by decide +kernel
  have h := fix_nm p.2 (ok p hp)
  refine ⟨?_, h.2⟩
  have h2 := h.1
  unfold name_Make.f at h2
  rw [if_pos (ln p hp)] at h2
  exact congrArg Prod.fst (Option.some.inj h2)
theorem star_made : (makeGo [star] []).1 = mkB (encL bStar) := by
  have h := word_made (5, [⟨#[42]⟩]) (by unfold wordsL; simp only [List.mem_cons, true_or, or_true])
  exact h.1
theorem front2 {t : ByteArray} {l : List UInt8} {ls : Lb} (h : Nm t (l :: ls)) : (2 < t.size ∧ t.extract 0 2 = mkB (encL bStar)) ↔ (l = bStar ∧ ls ≠ []) := by
  have hB : B t = encL l ++ enc ls := by rw [h.1, enc_cons]
  have ho := h.2.1 l (by simp)
  have hsz : t.size = l.length + 1 + (enc ls).length := by rw [← h.length, enc_cons, List.length_append, encL_length]
  have hpos : ls ≠ [] → 0 < (enc ls).length := by
    intro hn
    have := enc_length_le ls
    have : 0 < ls.length := List.length_pos_iff.2 hn
    omega
  have e2 : t.extract 0 2 = mkB (encL bStar) ↔ (B t).take 2 = encL bStar := by
    constructor
    · intro e
      have := congrArg B e
      rw [B_extract, B_mkB, List.drop_zero] at this
      exact this
    · intro e
      refine B_inj ?_
      rw [B_extract, B_mkB, List.drop_zero]
      exact e
  rw [e2, hB]
  unfold encL bStar
  constructor
  · rintro ⟨g1, g2⟩
    cases l with
    | nil => exact absurd ho.1 (by simp)
    | cons c r =>
      simp only [List.cons_append, List.take_succ_cons, List.take_zero, List.cons.injEq, and_true, List.length_cons] at g2
      obtain ⟨g3, rfl⟩ := g2
      have hr : r = [] := by
        have : (UInt8.ofNat (r.length + 1)).toNat = 1 := by rw [g3]; rfl
        rw [UInt8.toNat_ofNat'] at this
        have h63 := ho.2
        simp only [List.length_cons] at h63
        exact List.eq_nil_of_length_eq_zero (by omega)
      subst hr
      refine ⟨rfl, fun hn => ?_⟩
      subst hn
      simp [enc] at hsz
      omega
  · rintro ⟨rfl, hn⟩
    have := hpos hn
    exact ⟨by rw [hsz]; simp only [List.length_cons, List.length_nil]; omega, rfl⟩
theorem targetGo_eq {t : ByteArray} {ls : Lb} (h : Nm t ls) : targetGo t = ofGo t ls := by
  have key : ∀ p ∈ wordsL, ((makeGo p.2 []).1 = t ↔ ls = p.2.map B) := by
    intro p hp
    have ⟨e, n⟩ := word_made p hp
    rw [e]
    exact ⟨fun e2 => h.uniq (e2 ▸ n), fun e2 => (n.inj (e2 ▸ h))⟩
  have hit : ∀ p ∈ wordsL, ls = p.2.map B → targetGo t = (p.1, ⟨#[]⟩, false, []) := by
    intro p hp e
    have e1 := (key p hp).2 e
    unfold targetGo
    rw [← e1, found p hp]
  unfold ofGo
  by_cases c0 : ls.length = 0
  · rw [if_pos c0]; exact hit (4, []) (by unfold wordsL; simp only [List.mem_cons, true_or]) (List.eq_nil_of_length_eq_zero c0)
  rw [if_neg c0]
  by_cases c1 : ls = [bStar]
  · rw [if_pos c1]; exact hit (5, [⟨#[42]⟩]) (by unfold wordsL; simp only [List.mem_cons, true_or, or_true]) c1
  rw [if_neg c1]
  by_cases c2 : ls = [bPass]
  · rw [if_pos c2]; exact hit (2, [⟨#[114, 112, 122, 45, 112, 97, 115, 115, 116, 104, 114, 117]⟩]) (by unfold wordsL; simp only [List.mem_cons, true_or, or_true]) c2
  rw [if_neg c2]
  by_cases c3 : ls = [bDrop]
  · rw [if_pos c3]; exact hit (3, [⟨#[114, 112, 122, 45, 100, 114, 111, 112]⟩]) (by unfold wordsL; simp only [List.mem_cons, true_or, or_true]) c3
  rw [if_neg c3]
  by_cases c4 : ls = [bTcp]
  · rw [if_pos c4]; exact hit (6, [⟨#[114, 112, 122, 45, 116, 99, 112, 45, 111, 110, 108, 121]⟩]) (by unfold wordsL; simp only [List.mem_cons, true_or, or_true]) c4
  rw [if_neg c4]
  have none_ : wordsL.find? (fun p => decide ((makeGo p.2 []).1 = t)) = none := by
    rw [List.find?_eq_none]
    intro p hp hd
    have e := (key p hp).1 (of_decide_eq_true hd)
    unfold wordsL at hp
    simp only [List.mem_cons, List.not_mem_nil, or_false] at hp
    rcases hp with rfl | rfl | rfl | rfl | rfl
    · exact c0 (by rw [e]; rfl)
    · exact c1 e
    · exact c2 e
    · exact c3 e
    · exact c4 e
  unfold targetGo
  rw [none_]
  dsimp only
  match ls, h, c0 with
  | l :: r, h, _ =>
    have hf := front2 h
    rw [star_made]
    by_cases c5 : l = bStar
    · have hr : r ≠ [] := fun e => c1 (by rw [c5, e])
      rw [if_pos (hf.2 ⟨c5, hr⟩), if_pos (show (l :: r).headD [] = bStar from c5)]
      have : t.extract 2 t.size = mkB (enc r) := by
        refine B_inj ?_
        rw [B_extract, B_mkB, h.1, enc_cons, c5]
        show ((encL bStar ++ enc r).drop 2).take (t.size - 2) = enc r
        have hsz : t.size = 2 + (enc r).length := by rw [← h.length, enc_cons, List.length_append, encL_length, c5]; rfl
        rw [show (encL bStar ++ enc r).drop 2 = enc r from rfl, List.take_of_length_le (by omega)]
      rw [this]
      rfl
    · rw [if_neg (fun e => c5 (hf.1 e).1), if_neg (show ¬ (l :: r).headD [] = bStar from c5)]

/-! ### two actions -/
theorem act_same_loop (xs ys : List S43) (k0 : Int) (s0 : ByteArray) (b0 : Bool) (k1 : Int) (s1 : ByteArray) (b1 : Bool) (hl : xs.length = ys.length) (hb : xs.length ≤ 140737488351232) (d : Nat) :
    ∀ (k i : Nat), xs.length = i + d → d < k → action_Same.l0 k (xs.length : Int) i k0 s0 b0 xs k1 s1 b1 ys = some (eqRs (xs.drop i) (ys.drop i)) := by
  induction d with
  | zero =>
    intro k i hd hk
    obtain ⟨k, rfl⟩ : ∃ m, k = m + 1 := ⟨k - 1, by omega⟩
    simp only [action_Same.l0]
    rw [if_neg (by omega), List.drop_of_length_le (by omega), List.drop_of_length_le (by omega)]
    rfl
  | succ d ih =>
    intro k i hd hk
    obtain ⟨k, rfl⟩ : ∃ m, k = m + 1 := ⟨k - 1, by omega⟩
    simp only [action_Same.l0]
    have hx : i < xs.length := by omega
    have hy : i < ys.length := by omega
    rw [if_pos (by omega), if_pos (by omega), if_pos (by omega), if_pos (by omega), rdx xs i hx, rdx ys i hy, List.drop_eq_getElem_cons hx, List.drop_eq_getElem_cons hy, not_eqR, eqRs]
    cases e : eqR xs[i] ys[i]
    · rw [if_pos (show (!false) = true from rfl)]; rfl
    · rw [if_neg (by decide), RecA.w64 (n := (i : Int) + 1) (by omega) (by omega)]
      have := ih k (i + 1) (by omega) (by omega)
      rw [show ((i : Int) + 1) = ((i + 1 : Nat) : Int) from rfl, this]
      rfl
def sameA (a b : Int × ByteArray × Bool × List S43) : Bool := a.1 == b.1 && (decide (a.2.1 = b.2.1) && (a.2.2.1 == b.2.2.1 && eqRs a.2.2.2 b.2.2.2))
theorem same_act (a b : Int × ByteArray × Bool × List S43) (hb : a.2.2.2.length ≤ 140737488351232) : Ev (fun k => action_Same.f k a.1 a.2.1 a.2.2.1 a.2.2.2 b.1 b.2.1 b.2.2.1 b.2.2.2) (sameA a b) := by
  obtain ⟨k0, s0, b0, xs⟩ := a
  obtain ⟨k1, s1, b1, ys⟩ := b
  refine Ev.of (k := xs.length + 2) (fun k => action_Same.mono k0 s0 b0 xs k1 s1 b1 ys k) ?_
  dsimp only at hb ⊢
  unfold action_Same.f sameA
  dsimp only
  have jt : ∀ k, action_Same.j0 (k + 1) true k0 s0 b0 xs k1 s1 b1 ys = some false := fun k => rfl
  by_cases c1 : k0 = k1
  · rw [if_pos c1, show (k0 == k1) = true from beq_iff_eq.2 c1, Bool.true_and]
    by_cases c2 : s0 = s1
    · rw [if_pos ((toList_iff _ _).2 c2), decide_eq_true c2, Bool.true_and]
      by_cases c3 : b0 = b1
      · rw [if_neg (by rw [c3]; simp), show (b0 == b1) = true from beq_iff_eq.2 c3, Bool.true_and]
        simp only [action_Same.j0]
        by_cases c4 : (xs.length : Int) = (ys.length : Int)
        · rw [if_neg (by rw [c4]; simp)]
          have := act_same_loop xs ys k0 s0 b0 k1 s1 b1 (by omega) hb xs.length (xs.length + 1) 0 (by omega) (by omega)
          simpa using this
        · rw [if_pos (by simpa using c4), eqRs_length (by omega)]
      · rw [if_pos (by simpa using c3), jt, show (b0 == b1) = false from beq_eq_false_iff_ne.2 c3, Bool.false_and]
    · rw [if_neg (fun e => c2 ((toList_iff _ _).1 e)), jt, decide_eq_false c2, Bool.false_and]
  · rw [if_neg c1, jt, show (k0 == k1) = false from beq_eq_false_iff_ne.2 c1, Bool.false_and]
theorem sameA_refl (a : Int × ByteArray × Bool × List S43) : sameA a a = true := by
  unfold sameA
  rw [decide_eq_true rfl, eqRs_refl]
  simp

/-! ### what records do -/
def badR (rs : List S43) : Bool := rs.any (fun r => (r.f1 == 5 && decide (1 < rs.length)) || (r.f1 == 6 || r.f1 == 2))
def noneA : Int × ByteArray × Bool × List S43 × Bool := (0, ⟨#[]⟩, false, [], false)
def recsGo (rs : List S43) : Int × ByteArray × Bool × List S43 × Bool :=
  if badR rs || rs.length == 0 then noneA else if (rs.headD z43).f1 = 5 then ((targetGo (rs.headD z43).f3).1, (targetGo (rs.headD z43).f3).2.1, (targetGo (rs.headD z43).f3).2.2.1, (targetGo (rs.headD z43).f3).2.2.2, true) else (8, ⟨#[]⟩, false, rs, true)
def badAt (n : Nat) (r : S43) : Bool := (r.f1 == 5 && decide (1 < n)) || (r.f1 == 6 || r.f1 == 2)
theorem of_loop (rs : List S43) (hl : rs.length ≤ 1000) (d : Nat) :
    ∀ (k i : Nat), rs.length = i + d → d < k → (∀ r ∈ rs.take i, badAt rs.length r = false) → action_Of.l0 k rs (rs.take i) rs (rs.length : Int) i = some (recsGo rs) := by
  induction d with
  | zero =>
    intro k i hd hk hb
    obtain ⟨k, rfl⟩ : ∃ m, k = m + 1 := ⟨k - 1, by omega⟩
    rw [List.take_of_length_le (by omega)] at hb ⊢
    have hbad : badR rs = false := by
      unfold badR
      rw [List.any_eq_false]
      intro r hr
      have := hb r hr
      unfold badAt at this
      rw [this]
      decide
    simp only [action_Of.l0]
    unfold recsGo
    rw [hbad, Bool.false_or, if_neg (by omega)]
    cases rs with
    | nil => rfl
    | cons r rs =>
      rw [if_neg (by simp only [List.length_cons]; omega), if_pos (by simp only [List.length_cons]; omega), if_neg (show ¬ ((r :: rs).length == 0) = true by simp)]
      have e : rd_T43 (r :: rs) 0 = r := rfl
      rw [e, List.headD_cons]
      by_cases c : r.f1 = 5
      · rw [if_pos c, if_pos c]; rfl
      · rw [if_neg c, if_neg c]
  | succ d ih =>
    intro k i hd hk hb
    obtain ⟨k, rfl⟩ : ∃ m, k = m + 1 := ⟨k - 1, by omega⟩
    have hx : i < rs.length := by omega
    simp only [action_Of.l0]
    rw [if_pos (by omega), if_pos (by omega), if_pos (by omega), rdx rs i hx]
    have bad_yes : badAt rs.length rs[i] = true → recsGo rs = noneA := by
      intro h
      have : badR rs = true := by
        unfold badR
        rw [List.any_eq_true]
        exact ⟨rs[i], List.getElem_mem hx, h⟩
      unfold recsGo
      rw [this]
      rfl
    have go : badAt rs.length rs[i] = false → (if (rs.take i).length < 3518437208883 then (action_Of.l0 k rs (rs.take i ++ [(⟨rs[i].f0, rs[i].f1, rs[i].f2, rs[i].f3⟩ : S43)]) rs (rs.length : Int) (wrap64 ((i : Int) + 1))) else none) = some (recsGo rs) := by
      intro h
      rw [if_pos (by rw [List.length_take]; omega), RecA.w64 (n := (i : Int) + 1) (by omega) (by omega), show ((i : Int) + 1) = ((i + 1 : Nat) : Int) from rfl]
      have e : rs.take i ++ [(⟨rs[i].f0, rs[i].f1, rs[i].f2, rs[i].f3⟩ : S43)] = rs.take (i + 1) := by rw [List.take_succ_eq_append_getElem hx]
      rw [e]
      refine ih k (i + 1) (by omega) (by omega) ?_
      intro r hr
      rw [List.take_succ_eq_append_getElem hx] at hr
      rcases List.mem_append.1 hr with hr | hr
      · exact hb r hr
      · rw [List.mem_singleton.1 hr]; exact h
    by_cases c5 : rs[i].f1 = 5
    · rw [if_pos c5]
      by_cases c1 : 1 < rs.length
      · rw [if_pos (by omega), bad_yes (by unfold badAt; simp [c5, c1])]; rfl
      · rw [if_neg (by omega), if_neg (by omega), if_neg (by omega)]
        exact go (by unfold badAt; simp [c5, c1])
    · rw [if_neg c5]
      by_cases c6 : rs[i].f1 = 6
      · rw [if_pos c6, bad_yes (by unfold badAt; simp [c6])]; rfl
      · rw [if_neg c6]
        by_cases c2 : rs[i].f1 = 2
        · rw [if_pos c2, bad_yes (by unfold badAt; simp [c2])]; rfl
        · rw [if_neg c2]
          exact go (by unfold badAt; simp [c5, c6, c2])
theorem recs_of (rs : List S43) (hl : rs.length ≤ 1000) : Ev (fun k => action_Of.f k rs) (recsGo rs) := by
  refine Ev.of (k := rs.length + 1) (fun k => action_Of.mono rs k) ?_
  unfold action_Of.f
  exact of_loop rs hl rs.length (rs.length + 1) 0 (by omega) (by omega) (by simp)
end Go.Proofs.Ytdkjlbbbdjkhbaa.ActA
