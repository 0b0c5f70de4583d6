/- What name.Make, Parent, Below, Strip and Join compute, in plain words. -/
import Derived.Test.YtihlimbdgipdeaaNamL
set_option linter.unusedVariables false
namespace Go.Proofs.Ytihlimbdgipdeaa.NamL
open Go.RowKit Go.Proofs.Ytihlimbdgipdeaa.PNam Go.Proofs.Ytihlimbdgipdeaa.PBase0 Go.Proofs.Ytihlimbdgipdeaa.Hand Go.Proofs.YtihlimbdgipdeaaW.PrintWords Go.Proofs.YtihlimbdgipdeaaW.PrintLast

/-! ### Make -/
def foldL (l : ByteArray) : List UInt8 := (B l).map foldB
theorem lab_eq (l : ByteArray) : lab l = encL (foldL l) := by
  have e : (foldS l).data.toList = foldL l := foldS_B l
  unfold lab encL
  rw [e]
  unfold foldL
  rw [List.length_map, B_length]
theorem makeGo_eq : ∀ (ls : List ByteArray) (acc : List UInt8), acc.length ≤ 254 →
    ((∀ l ∈ ls, Ok (B l)) ∧ acc.length + (enc (ls.map foldL)).length ≤ 254 → makeGo ls acc = (mkB (acc ++ enc (ls.map foldL)), true)) ∧
    (¬ ((∀ l ∈ ls, Ok (B l)) ∧ acc.length + (enc (ls.map foldL)).length ≤ 254) → makeGo ls acc = ((⟨#[]⟩ : ByteArray), false))
  | [], acc, ha => ⟨fun _ => by simp [makeGo, mkB, enc], fun h => absurd ⟨by simp, by simpa [enc] using ha⟩ h⟩
  | l :: ls, acc, ha => by
    have hl : (foldL l).length = l.size := by unfold foldL; rw [List.length_map, B_length]
    have e1 : (enc ((l :: ls).map foldL)).length = l.size + 1 + (enc (ls.map foldL)).length := by
      rw [List.map_cons, enc_cons, List.length_append, encL_length, hl]
    rw [makeGo]
    by_cases c : l.size < 1 ∨ 63 < l.size ∨ 254 < acc.length + 1 + l.size
    · rw [if_pos c]
      refine ⟨fun h => ?_, fun _ => rfl⟩
      have ⟨o1, o2⟩ := h.1 l (by simp)
      have h2 := h.2
      rw [e1] at h2
      rw [B_length] at o1 o2
      omega
    · rw [if_neg c]
      have ih := makeGo_eq ls (acc ++ lab l) (by rw [List.length_append, lab_length]; omega)
      rw [List.length_append, lab_length] at ih
      refine ⟨fun h => ?_, fun h => ih.2 fun k => h ⟨fun x hx => ?_, by rw [e1]; omega⟩⟩
      · have h2 := h.2
        rw [e1] at h2
        rw [ih.1 ⟨fun x hx => h.1 x (by simp [hx]), by omega⟩, List.map_cons, enc_cons, lab_eq, List.append_assoc]
      · rcases List.mem_cons.1 hx with rfl | hx
        · unfold Ok; rw [B_length]; omega
        · exact k.1 x hx
theorem foldL_ok {l : ByteArray} (h : Ok (B l)) : Ok (foldL l) := by unfold foldL Ok; rw [List.length_map]; exact h
theorem enc_low {ls : Lb} (h : ∀ l ∈ ls, Ok l ∧ Low l) : Low (enc ls) := by
  induction ls with
  | nil => intro c hc; simp [enc] at hc
  | cons l ls ih =>
    rw [enc_cons, low_append]
    refine ⟨?_, ih fun x hx => h x (by simp [hx])⟩
    have ⟨⟨o1, o2⟩, o3⟩ := h l (by simp)
    intro c hc
    rcases List.mem_cons.1 hc with rfl | hc
    · simp; omega
    · exact o3 c hc
theorem make_nm {ls : List ByteArray} (h : ∀ l ∈ ls, Ok (B l)) (hs : (enc (ls.map foldL)).length ≤ 254) :
    name_Make.f ls = some (mkB (enc (ls.map foldL)), true) ∧ Nm (mkB (enc (ls.map foldL))) (ls.map foldL) := by
  have hl := enc_length_le (ls.map foldL)
  rw [List.length_map] at hl
  refine ⟨?_, ?_⟩
  · unfold name_Make.f
    rw [if_pos (by omega), (makeGo_eq ls [] (by simp)).1 ⟨h, by simpa using hs⟩]
    rfl
  · have ho : ∀ l ∈ ls.map foldL, Ok l ∧ Low l := by
      intro x hx
      obtain ⟨l, hl, rfl⟩ := List.mem_map.1 hx
      exact ⟨foldL_ok (h l hl), fold_low_list _⟩
    exact ⟨rfl, fun l hl => (ho l hl).1, by rw [B_mkB]; exact enc_low ho, by rw [mkB_size]; exact hs⟩
theorem make_none {ls : List ByteArray} (hlen : ls.length ≤ 140737488351232) (h : ¬ ((∀ l ∈ ls, Ok (B l)) ∧ (enc (ls.map foldL)).length ≤ 254)) : name_Make.f ls = some ((⟨#[]⟩ : ByteArray), false) := by
  unfold name_Make.f
  rw [if_pos hlen, (makeGo_eq ls [] (by simp)).2 (by simpa using h)]
theorem foldL_low {l : ByteArray} (h : Low (B l)) : foldL l = B l := low_map.2 h

/-! ### Parent -/
theorem parent_root : Ev (fun k => name_Parent.f k (⟨#[]⟩ : ByteArray)) ((⟨#[]⟩ : ByteArray), false) :=
  ⟨0, fun k _ => by show name_Parent.f k _ = _; unfold name_Parent.f; rw [if_pos (by decide)]⟩
theorem nm_nil {s : ByteArray} (h : Nm s []) : s = (⟨#[]⟩ : ByteArray) := h.inj Nm.nil
theorem parent_yes {s : ByteArray} {l : List UInt8} {ls : Lb} (h : Nm s (l :: ls)) : Ev (fun k => name_Parent.f k s) (mkB (enc ls), true) := by
  obtain ⟨K, hK⟩ := may_yes h
  dsimp only at hK
  have hB : B s = UInt8.ofNat l.length :: (l ++ enc ls) := by rw [h.1, enc_cons]; rfl
  have ⟨o1, o2⟩ := h.2.1 l (by simp)
  have hz : s.size = l.length + 1 + (enc ls).length := by rw [← h.length, enc_cons, List.length_append, encL_length]
  have hb : bt s 0 = (l.length : Int) := by
    have := bt_B s 0 (by rw [hB]; simp)
    simp only [hB, List.getElem_cons_zero] at this
    rw [show (0 : Int) = ((0 : Nat) : Int) from rfl, this]
    simp
    omega
  have h4 := h.2.2.2
  refine ⟨K, fun k hk => ?_⟩
  show name_Parent.f k s = _
  unfold name_Parent.f
  rw [if_neg (by omega), hK k hk, Option.bind_some, if_pos rfl, if_pos (by omega), hb, w64 (n := (l.length : Int)) (by omega) (by omega), w64 (n := 1 + (l.length : Int)) (by omega) (by omega), if_pos (by omega), if_pos (by omega)]
  have e1 : (1 + (l.length : Int)).toNat = l.length + 1 := by omega
  rw [e1]
  have x2 : s.extract (l.length + 1) s.size = mkB (enc ls) := B_inj (by
    rw [B_extract, hB, B_mkB, List.drop_succ_cons, List.drop_left, List.take_of_length_le (by omega)])
  rw [x2]
theorem parent_no {s : ByteArray} (h : ∀ ls, ¬ Nm s ls) : Ev (fun k => name_Parent.f k s) ((⟨#[]⟩ : ByteArray), false) := by
  obtain ⟨K, hK⟩ := may_no h
  dsimp only at hK
  refine ⟨K, fun k hk => ?_⟩
  show name_Parent.f k s = _
  unfold name_Parent.f
  by_cases c : (s.size : Int) = 0
  · rw [if_pos c]
  · rw [if_neg c, hK k hk, Option.bind_some, if_neg (by decide)]

/-! ### Below -/
theorem below_false_at (k : Nat) (a b : ByteArray) : name_Below.l0 (k + 1) a b false = some false := by
  simp only [name_Below.l0]; rfl
theorem below_loop {b : ByteArray} {ms : Lb} (hb : Nm b ms) : ∀ (ls : Lb) (a : ByteArray), Nm a ls → ∃ K, ∀ k, K ≤ k → name_Below.l0 k a b true = some (decide (ms <:+ ls))
  | [], a, ha => by
    obtain rfl := nm_nil ha
    obtain ⟨K, hK⟩ := parent_root
    dsimp only at hK
    refine ⟨K + 2, fun k hk => ?_⟩
    obtain ⟨k, rfl⟩ : ∃ m, k = m + 2 := ⟨k - 2, by omega⟩
    simp only [name_Below.l0]
    by_cases e : ms = []
    · subst e
      have : (⟨#[]⟩ : ByteArray) = b := ha.inj hb
      subst this
      rw [if_pos trivial, if_pos rfl]
      congr 1
    · have ne : ¬ (⟨#[]⟩ : ByteArray).toList = b.toList := by
        rw [toList_iff, ha.eq_iff hb]; exact fun h => e h.symm
      rw [if_pos trivial, if_neg ne, hK _ (by omega), Option.bind_some]
      simp only [Bool.false_eq_true, if_false]
      congr 1
      symm
      rw [decide_eq_false_iff_not, List.suffix_nil]
      exact e
  | l :: ls, a, ha => by
    obtain ⟨K, hK⟩ := parent_yes ha
    dsimp only at hK
    obtain ⟨K2, hK2⟩ := below_loop hb ls _ ha.tail
    refine ⟨K + K2 + 2, fun k hk => ?_⟩
    obtain ⟨k, rfl⟩ : ∃ m, k = m + 1 := ⟨k - 1, by omega⟩
    simp only [name_Below.l0]
    by_cases e : ms = l :: ls
    · subst e
      have : a = b := ha.inj hb
      subst this
      rw [if_pos trivial, if_pos rfl]
      congr 1
      symm
      rw [decide_eq_true_eq]
      exact List.suffix_refl _
    · have ne : ¬ a.toList = b.toList := by
        rw [toList_iff, ha.eq_iff hb]; exact fun h => e h.symm
      rw [if_pos trivial, if_neg ne, hK _ (by omega), Option.bind_some]
      dsimp only
      rw [hK2 _ (by omega)]
      congr 1
      rw [decide_eq_decide, List.suffix_cons_iff]
      exact ⟨fun h => .inr h, fun h => h.resolve_left e⟩
theorem below_yes {a b : ByteArray} {ls ms : Lb} (ha : Nm a ls) (hb : Nm b ms) : Ev (fun k => name_Below.f k a b) (decide (ms <:+ ls)) := by
  obtain ⟨K1, h1⟩ := may_yes ha
  obtain ⟨K2, h2⟩ := may_yes hb
  obtain ⟨K3, h3⟩ := below_loop hb ls a ha
  dsimp only at h1 h2
  refine ⟨K1 + K2 + K3 + 2, fun k hk => ?_⟩
  obtain ⟨k, rfl⟩ : ∃ m, k = m + 1 := ⟨k - 1, by omega⟩
  show name_Below.f _ a b = _
  unfold name_Below.f
  rw [h1 _ (by omega), Option.bind_some, if_pos rfl, h2 _ (by omega), Option.bind_some]
  simp only [name_Below.j0]
  exact h3 _ (by omega)
theorem below_no_left {a b : ByteArray} (ha : ∀ ls, ¬ Nm a ls) : Ev (fun k => name_Below.f k a b) false := by
  obtain ⟨K1, h1⟩ := may_no ha
  dsimp only at h1
  refine ⟨K1 + 2, fun k hk => ?_⟩
  obtain ⟨k, rfl⟩ : ∃ m, k = m + 2 := ⟨k - 2, by omega⟩
  show name_Below.f _ a b = _
  unfold name_Below.f
  rw [h1 _ (by omega), Option.bind_some, if_neg (by decide)]
  simp only [name_Below.j0]
  exact below_false_at k a b
theorem below_no_right {a b : ByteArray} {ls : Lb} (ha : Nm a ls) (hb : ∀ ls, ¬ Nm b ls) : Ev (fun k => name_Below.f k a b) false := by
  obtain ⟨K1, h1⟩ := may_yes ha
  obtain ⟨K2, h2⟩ := may_no hb
  dsimp only at h1 h2
  refine ⟨K1 + K2 + 2, fun k hk => ?_⟩
  obtain ⟨k, rfl⟩ : ∃ m, k = m + 2 := ⟨k - 2, by omega⟩
  show name_Below.f _ a b = _
  unfold name_Below.f
  rw [h1 _ (by omega), Option.bind_some, if_pos rfl, h2 _ (by omega), Option.bind_some]
  simp only [name_Below.j0]
  exact below_false_at k a b

/-! ### Strip, Join -/
theorem strip_yes {a b : ByteArray} {fs ms : Lb} (ha : Nm a (fs ++ ms)) (hb : Nm b ms) : Ev (fun k => name_Strip.f k a b) (mkB (enc fs), true) := by
  obtain ⟨K, hK⟩ := below_yes ha hb
  dsimp only at hK
  have ht : decide (ms <:+ fs ++ ms) = true := by rw [decide_eq_true_eq]; exact List.suffix_append _ _
  rw [ht] at hK
  have hz : a.size = (enc fs).length + b.size := by rw [← ha.length, ← hb.length, enc_append, List.length_append]
  have h4 := ha.2.2.2
  refine ⟨K, fun k hk => ?_⟩
  show name_Strip.f k a b = _
  unfold name_Strip.f
  rw [hK k hk, Option.bind_some, if_pos rfl, w64 (n := (a.size : Int) - (b.size : Int)) (by omega) (by omega), if_pos (by omega), if_pos (by omega)]
  have e : ((a.size : Int) - (b.size : Int)).toNat = (enc fs).length := by omega
  have x : a.extract 0 (enc fs).length = mkB (enc fs) := B_inj (by rw [B_extract, ha.1, B_mkB, enc_append, List.drop_zero, Nat.sub_zero, List.take_left])
  rw [e, x]
theorem strip_no {a b : ByteArray} (h : Ev (fun k => name_Below.f k a b) false) : Ev (fun k => name_Strip.f k a b) ((⟨#[]⟩ : ByteArray), false) := by
  obtain ⟨K, hK⟩ := h
  dsimp only at hK
  refine ⟨K, fun k hk => ?_⟩
  show name_Strip.f k a b = _
  unfold name_Strip.f
  rw [hK k hk, Option.bind_some, if_neg (by decide)]
theorem Nm.join {a b : ByteArray} {ls ms : Lb} (ha : Nm a ls) (hb : Nm b ms) (hs : a.size + b.size ≤ 254) : Nm (a ++ b) (ls ++ ms) := by
  refine ⟨by rw [B_append, ha.1, hb.1, enc_append], fun l hl => ?_, by rw [B_append, low_append]; exact ⟨ha.2.2.1, hb.2.2.1⟩, by rw [ByteArray.size_append]; exact hs⟩
  rcases List.mem_append.1 hl with h | h
  · exact ha.2.1 l h
  · exact hb.2.1 l h
theorem join_yes {a b : ByteArray} {ls ms : Lb} (ha : Nm a ls) (hb : Nm b ms) (hs : a.size + b.size ≤ 254) : Ev (fun k => name_Join.f k a b) (a ++ b, true) := by
  obtain ⟨K1, h1⟩ := may_yes ha
  obtain ⟨K2, h2⟩ := may_yes hb
  dsimp only at h1 h2
  refine ⟨K1 + K2, fun k hk => ?_⟩
  show name_Join.f k a b = _
  unfold name_Join.f
  rw [h1 _ (by omega), Option.bind_some, if_pos rfl, h2 _ (by omega), Option.bind_some, if_pos rfl, w64 (n := (a.size : Int) + (b.size : Int)) (by omega) (by omega), if_neg (by omega), if_pos (by omega)]
theorem join_long {a b : ByteArray} {ls ms : Lb} (ha : Nm a ls) (hb : Nm b ms) (hs : 254 < a.size + b.size) : Ev (fun k => name_Join.f k a b) ((⟨#[]⟩ : ByteArray), false) := by
  obtain ⟨K1, h1⟩ := may_yes ha
  obtain ⟨K2, h2⟩ := may_yes hb
  dsimp only at h1 h2
  have h3 := ha.2.2.2
  have h4 := hb.2.2.2
  refine ⟨K1 + K2, fun k hk => ?_⟩
  show name_Join.f k a b = _
  unfold name_Join.f
  rw [h1 _ (by omega), Option.bind_some, if_pos rfl, h2 _ (by omega), Option.bind_some, if_pos rfl, w64 (n := (a.size : Int) + (b.size : Int)) (by omega) (by omega), if_pos (by omega)]
theorem join_no {a b : ByteArray} (h : (∀ ls, ¬ Nm a ls) ∨ (∀ ls, ¬ Nm b ls)) : Ev (fun k => name_Join.f k a b) ((⟨#[]⟩ : ByteArray), false) := by
  by_cases ca : ∃ ls, Nm a ls
  · obtain ⟨ls, ha⟩ := ca
    have hb : ∀ ls, ¬ Nm b ls := h.resolve_left (fun k => k ls ha)
    obtain ⟨K1, h1⟩ := may_yes ha
    obtain ⟨K2, h2⟩ := may_no hb
    dsimp only at h1 h2
    refine ⟨K1 + K2, fun k hk => ?_⟩
    show name_Join.f k a b = _
    unfold name_Join.f
    rw [h1 _ (by omega), Option.bind_some, if_pos rfl, h2 _ (by omega), Option.bind_some, if_neg (by decide)]
  · obtain ⟨K1, h1⟩ := may_no (fun ls k => ca ⟨ls, k⟩ : ∀ ls, ¬ Nm a ls)
    dsimp only at h1
    refine ⟨K1, fun k hk => ?_⟩
    show name_Join.f k a b = _
    unfold name_Join.f
    rw [h1 _ (by omega), Option.bind_some, if_neg (by decide)]
end Go.Proofs.Ytihlimbdgipdeaa.NamL
