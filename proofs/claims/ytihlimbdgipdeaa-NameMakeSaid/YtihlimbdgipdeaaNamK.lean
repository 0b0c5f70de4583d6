/- What the statements' own labels tell: the same as name.Labels. -/
import Derived.Test.YtihlimbdgipdeaaNamM
import Derived.Test.YtihlimbdgipdeaaPNamx24
set_option linter.unusedVariables false
namespace Go.Proofs.Ytihlimbdgipdeaa.NamL
open Go.RowKit Go.Proofs.Ytihlimbdgipdeaa.PNam Go.Proofs.Ytihlimbdgipdeaa.PBase0 Go.Proofs.Ytihlimbdgipdeaa.Hand Go.Proofs.YtihlimbdgipdeaaW.PrintWords Go.Proofs.YtihlimbdgipdeaaW.PrintLast

instance (l : List UInt8) : Decidable (Low l) := by unfold Low; infer_instance
theorem labels_inner (s : ByteArray) (acc : List ByteArray) (at_ kk : Int) (x : ByteArray) (hx : x.size ≤ 63) (hk : kk = x.size) (at2 : Int) (ha : wrap64 (at_ + wrap64 (1 + kk)) = at2) (hl : acc.length ≤ 1000) (res : Option (List ByteArray × Bool)) (K : Nat)
    (hres : Low (B x) → ∀ k, K ≤ k → bolterlaw02_labels.l0 k s (acc ++ [x]) at2 = res) (hno : ¬ Low (B x) → res = some ([], false)) (d : Nat) :
    ∀ (k i : Nat), x.size = i + d → K + d < k → Low ((B x).take i) → bolterlaw02_labels.l1 k s acc at_ kk x i = res := by
  induction d with
  | zero =>
    intro k i hd hk2 hlow
    obtain ⟨k, rfl⟩ : ∃ m, k = m + 1 := ⟨k - 1, by omega⟩
    simp only [bolterlaw02_labels.l1]
    rw [if_neg (by omega), if_pos (by omega), ha]
    rw [List.take_of_length_le (by rw [B_length]; omega)] at hlow
    exact hres hlow k (by omega)
  | succ d ih =>
    intro k i hd hk2 hlow
    obtain ⟨k, rfl⟩ : ∃ m, k = m + 1 := ⟨k - 1, by omega⟩
    simp only [bolterlaw02_labels.l1]
    have hi : i < (B x).length := by rw [B_length]; omega
    have hb := bt_B x i hi
    rw [if_pos (by omega), if_pos (by omega), if_pos (by omega), hb, w64 (n := (i : Int) + 1) (by omega) (by omega)]
    by_cases up : 65 ≤ ((B x)[i]).toNat ∧ ((B x)[i]).toNat ≤ 90
    · rw [if_pos (by omega), if_pos (by omega)]
      symm
      exact hno fun h => h _ (List.getElem_mem hi) up
    · have step : bolterlaw02_labels.l1 k s acc at_ kk x ((i : Int) + 1) = res := by
        refine ih k (i + 1) (by omega) (by omega) ?_
        rw [List.take_succ_eq_append_getElem hi, low_append]
        refine ⟨hlow, fun c hc => ?_⟩
        obtain rfl := List.mem_singleton.1 hc
        exact up
      by_cases h1 : ((((B x)[i]).toNat : Nat) : Int) ≥ 65
      · rw [if_pos h1, if_neg (by omega)]; exact step
      · rw [if_neg h1]; exact step
theorem labels_outer (s : ByteArray) (hs : s.size ≤ 254) (n : Nat) : ∀ (at_ : Nat) (acc : List ByteArray), s.size = at_ + n → acc.length ≤ at_ →
    ∃ K, ∀ k, K ≤ k → bolterlaw02_labels.l0 k s acc at_ = some (match (if Low ((B s).drop at_) then dec ((B s).drop at_) else none) with | some ls => (acc ++ ls.map mkB, true) | none => ([], false)) := by
  induction n using Nat.strongRecOn with
  | _ n ih =>
    intro at_ acc hn hacc
    have hlen := B_length s
    cases n with
    | zero =>
      refine ⟨1, fun k hk => ?_⟩
      obtain ⟨k, rfl⟩ : ∃ m, k = m + 1 := ⟨k - 1, by omega⟩
      simp only [bolterlaw02_labels.l0]
      have e : (B s).drop at_ = [] := List.drop_of_length_le (by omega)
      rw [if_neg (by omega), e, dec_nil, if_pos (by intro c hc; cases hc)]
      simp
    | succ n =>
      have hi : at_ < (B s).length := by omega
      have hdrop := List.drop_eq_getElem_cons hi
      generalize hc : (B s)[at_] = c at hdrop
      generalize ht : (B s).drop (at_ + 1) = t at hdrop
      have htl : t.length = n := by rw [← ht, List.length_drop]; omega
      have hb : bt s (at_ : Int) = (c.toNat : Int) := by rw [bt_B s at_ hi, hc]
      have hcl := c.toNat_lt
      rw [hdrop, dec_cons]
      by_cases ok : 1 ≤ c.toNat ∧ c.toNat ≤ 63 ∧ c.toNat ≤ t.length
      · have hx : s.extract (at_ + 1) (at_ + 1 + c.toNat) = mkB (t.take c.toNat) := B_inj (by
          rw [B_extract, B_mkB, ht]; congr 1; omega)
        have hxs : (mkB (t.take c.toNat)).size = c.toNat := by rw [mkB_size, List.length_take]; omega
        obtain ⟨K, hK⟩ := ih (n - c.toNat) (by omega) (at_ + 1 + c.toNat) (acc ++ [mkB (t.take c.toNat)]) (by omega) (by rw [List.length_append]; simp; omega)
        have hdd : (B s).drop (at_ + 1 + c.toNat) = t.drop c.toNat := by rw [← ht, List.drop_drop]
        rw [hdd] at hK
        have cl : ¬ (65 ≤ c.toNat ∧ c.toNat ≤ 90) := by omega
        have split_ : Low (c :: t) ↔ Low (t.take c.toNat) ∧ Low (t.drop c.toNat) := by
          rw [← low_append, List.take_append_drop]
          constructor
          · intro h x hx; exact h x (by simp [hx])
          · intro h x hx
            rcases List.mem_cons.1 hx with rfl | hx
            · exact cl
            · exact h x hx
        rw [if_pos ok]
        refine ⟨K + 100, fun k hk => ?_⟩
        obtain ⟨k, rfl⟩ : ∃ m, k = m + 2 := ⟨k - 2, by omega⟩
        have go : bolterlaw02_labels.j1 (k + 1) s acc at_ (c.toNat : Int) false = some (match (if Low (c :: t) then (dec (t.drop c.toNat)).map (t.take c.toNat :: ·) else none) with | some ls => (acc ++ ls.map mkB, true) | none => ([], false)) := by
          simp only [bolterlaw02_labels.j1]
          rw [if_neg (by decide), w64 (n := (at_ : Int) + 1) (by omega) (by omega), w64 (n := (at_ : Int) + 1 + (c.toNat : Int)) (by omega) (by omega), if_pos (by omega), if_pos (by omega), if_pos (by omega)]
          rw [show ((at_ : Int) + 1).toNat = at_ + 1 by omega, show ((at_ : Int) + 1 + (c.toNat : Int)).toNat = at_ + 1 + c.toNat by omega, hx]
          refine labels_inner s acc at_ (c.toNat : Int) _ (by omega) (by rw [hxs]) ((at_ + 1 + c.toNat : Nat) : Int) (by rw [w64 (n := 1 + (c.toNat : Int)) (by omega) (by omega), w64 (by omega) (by omega)]; omega) (by omega) _ K ?_ ?_ c.toNat k 0 (by omega) (by omega) (by intro z hz; simp at hz)
          · intro hlow k hk
            rw [hK k hk]
            rw [B_mkB] at hlow
            by_cases h2 : Low (t.drop c.toNat)
            · rw [if_pos h2, if_pos (split_.2 ⟨hlow, h2⟩)]
              cases dec (t.drop c.toNat) with
              | none => rfl
              | some ls => simp
            · rw [if_neg h2, if_neg (fun h => h2 (split_.1 h).2)]
          · intro hlow
            rw [B_mkB] at hlow
            rw [if_neg (fun h => hlow (split_.1 h).1)]
        simp only [bolterlaw02_labels.l0]
        rw [if_pos (by omega), if_pos (by omega), hb, w64 (n := (c.toNat : Int)) (by omega) (by omega), if_neg (by omega), if_neg (by omega), w64 (n := (at_ : Int) + (c.toNat : Int)) (by omega) (by omega), decide_eq_false (by omega)]
        exact go
      · rw [if_neg ok]
        refine ⟨2, fun k hk => ?_⟩
        obtain ⟨k, rfl⟩ : ∃ m, k = m + 2 := ⟨k - 2, by omega⟩
        have no : bolterlaw02_labels.j1 (k + 1) s acc at_ (c.toNat : Int) true = some ([], false) := by
          simp only [bolterlaw02_labels.j1]; rfl
        have e : (match (if Low (c :: t) then (none : Option Lb) else none) with | some ls => (acc ++ ls.map mkB, true) | none => (([] : List ByteArray), false)) = ([], false) := by split <;> simp_all
        rw [e]
        simp only [bolterlaw02_labels.l0]
        rw [if_pos (by omega), if_pos (by omega), hb, w64 (n := (c.toNat : Int)) (by omega) (by omega)]
        by_cases h1 : (c.toNat : Int) < 1
        · rw [if_pos h1]; exact no
        · rw [if_neg h1]
          by_cases h2 : (c.toNat : Int) > 63
          · rw [if_pos h2]; exact no
          · rw [if_neg h2, w64 (n := (at_ : Int) + (c.toNat : Int)) (by omega) (by omega), decide_eq_true (by omega)]; exact no
theorem law_labels_yes {s : ByteArray} {ls : Lb} (h : Nm s ls) : Ev (fun k => bolterlaw02_labels.f k s) (ls.map mkB, true) := by
  obtain ⟨K, hK⟩ := labels_outer s h.2.2.2 s.size 0 [] (by omega) (by simp)
  rw [List.drop_zero, if_pos h.2.2.1, h.code] at hK
  refine ⟨K, fun k hk => ?_⟩
  show bolterlaw02_labels.f k s = _
  unfold bolterlaw02_labels.f
  have := h.2.2.2
  rw [if_neg (by omega)]
  exact hK k hk
theorem law_labels_no {s : ByteArray} (h : ∀ ls, ¬ Nm s ls) : Ev (fun k => bolterlaw02_labels.f k s) ([], false) := by
  by_cases h4 : s.size ≤ 254
  · obtain ⟨K, hK⟩ := labels_outer s h4 s.size 0 [] (by omega) (by simp)
    refine ⟨K, fun k hk => ?_⟩
    show bolterlaw02_labels.f k s = _
    unfold bolterlaw02_labels.f
    rw [if_neg (by omega)]
    have := hK k hk
    rw [List.drop_zero] at this
    refine Eq.trans this ?_
    by_cases hl : Low (B s)
    · rw [if_pos hl]
      cases hd : dec (B s) with
      | none => rfl
      | some ls => exact absurd (Nm.of_dec hd hl h4) (h ls)
    · rw [if_neg hl]
  · refine ⟨0, fun k hk => ?_⟩
    show bolterlaw02_labels.f k s = _
    unfold bolterlaw02_labels.f
    rw [if_pos (by omega)]
theorem nm_or (s : ByteArray) : (∃ ls, Nm s ls) ∨ ∀ ls, ¬ Nm s ls := by
  by_cases h : ∃ ls, Nm s ls
  · exact .inl h
  · exact .inr fun ls k => h ⟨ls, k⟩
end Go.Proofs.Ytihlimbdgipdeaa.NamL
