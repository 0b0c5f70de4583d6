/- Records made by numbers: they are there, and those that are a CNAME hold a name. -/
import Derived.Test.YtdkjlbbbdjkhbaaNamA
import Derived.Test.YtdkjlbbbdjkhbaaPAllx34
set_option linter.unusedVariables false
namespace Go.Proofs.Ytdkjlbbbdjkhbaa.ActA
open Go.RowKit Go.Proofs.Ytdkjlbbbdjkhbaa.PAll Go.Proofs.Ytdkjlbbbdjkhbaa.Hand Go.Proofs.Ytdkjlbbbdjkhbaa.NamL Go.Proofs.YtdkjlbbbdjkhbaaW.PrintWords Go.Proofs.YtdkjlbbbdjkhbaaW.PrintLast Go.Proofs.YtdkjlbbbdjkhbaaW.PrintMore
/-- Data that may be. -/
def DataOk (r : Int × ByteArray) : Prop := (r.1 = 5 → ∃ ls, Nm r.2 ls) ∧ r.2.size ≤ 600
theorem bsize_le {s : ByteArray} {ls : Lb} (h : Nm s ls) : s.size ≤ 254 := h.2.2.2
theorem data_tail {x8 : ByteArray} {ls : Lb} (hx : Nm x8 ls) (x2 : ByteArray) (hs : x2.size ≤ 30) (t : Int) (b : Bool) (k : Nat) : ∃ r, DataOk r ∧ bolterlaw04_Data.j0 (k + 1) x2 x8 t b = some r := by
  have h8 := bsize_le hx
  have ap : ∀ (a : ByteArray) (l : Array UInt8), (a ++ (⟨l⟩ : ByteArray)).size = a.size + l.size := fun a l => ByteArray.size_append
  have ex : ∀ (a : ByteArray) (i j : Nat), (a.extract i j).size = min j a.size - i := fun a i j => ByteArray.size_extract
  simp only [bolterlaw04_Data.j0]
  cases b
  · rw [if_neg Bool.false_ne_true]
    by_cases c2 : t = 2
    · rw [if_pos c2]; exact ⟨_, ⟨fun h => absurd h (show ¬ (2 : Int) = 5 by decide), by show x8.size ≤ 600; omega⟩, rfl⟩
    rw [if_neg c2]
    by_cases c3 : t = 3
    · rw [if_pos c3]; exact ⟨_, ⟨fun _ => ⟨ls, hx⟩, by show x8.size ≤ 600; omega⟩, rfl⟩
    rw [if_neg c3]
    by_cases c4 : t = 4
    · have e1 : (x8 ++ (⟨#[0]⟩ : ByteArray)).size = x8.size + 1 := ap _ _
      have e2 : ((x8 ++ (⟨#[0]⟩ : ByteArray)) ++ x8).size = x8.size + 1 + x8.size := by rw [ByteArray.size_append, e1]
      have e3 : (((x8 ++ (⟨#[0]⟩ : ByteArray)) ++ x8) ++ (⟨#[0]⟩ : ByteArray)).size = x8.size + 1 + x8.size + 1 := by rw [ap, e2]; rfl
      have e4 : (x2 ++ (⟨#[48, 49, 50, 51, 52, 53, 54, 55, 56, 57, 48, 49, 50, 51, 52, 53, 54, 55, 56, 57]⟩ : ByteArray)).size = x2.size + 20 := ap _ _
      have e5 : ((x2 ++ (⟨#[48, 49, 50, 51, 52, 53, 54, 55, 56, 57, 48, 49, 50, 51, 52, 53, 54, 55, 56, 57]⟩ : ByteArray)).extract 0 20).size = 20 := by rw [ex, e4]; omega
      rw [if_pos c4, if_pos (by omega), if_pos (by rw [e1]; omega), if_pos (by rw [e2]; omega), if_pos (by omega), if_pos (by decide), if_pos (by rw [e4]; omega), if_pos (by rw [e3, e5]; omega)]
      exact ⟨_, ⟨fun h => absurd h (show ¬ (6 : Int) = 5 by decide), by show (_ ++ _ : ByteArray).size ≤ 600; rw [ByteArray.size_append, e3, e5]; omega⟩, rfl⟩
    rw [if_neg c4]
    by_cases c5 : t = 5
    · have em : mn (x2.size : Int) 255 = (x2.size : Int) := by unfold mn; rw [if_neg (by omega)]
      have e1 : (strOfNums [mn (x2.size : Int) 255]).size = 1 := by rw [strOfNums_size]; rfl
      have e2 : (x2.extract 0 ((x2.size : Int)).toNat).size = x2.size := by rw [ex]; omega
      rw [if_pos c5, Option.bind_some, em, if_pos (by omega), if_pos (by omega), if_pos (by rw [← em, e1, em, e2]; omega)]
      exact ⟨_, ⟨fun h => absurd h (show ¬ (16 : Int) = 5 by decide), by show (_ ++ _ : ByteArray).size ≤ 600; rw [ByteArray.size_append, e2, strOfNums_size]; simp only [List.length_cons, List.length_nil]; omega⟩, rfl⟩
    rw [if_neg c5]
    by_cases c6 : t = 6
    · have e4 : (x2 ++ (⟨#[48, 49, 50, 51, 52, 53, 54, 55, 56, 57, 97, 98, 99, 100, 101, 102]⟩ : ByteArray)).size = x2.size + 16 := ap _ _
      rw [if_pos c6, if_pos (by omega), if_pos (by decide), if_pos (by rw [e4]; omega)]
      exact ⟨_, ⟨fun h => absurd h (show ¬ (28 : Int) = 5 by decide), by show (ByteArray.extract _ _ _).size ≤ 600; rw [ex]; omega⟩, rfl⟩
    rw [if_neg c6]
    have em : mn (x2.size : Int) 512 = (x2.size : Int) := by unfold mn; rw [if_neg (by omega)]
    rw [em, if_pos (by omega), if_pos (by omega)]
    exact ⟨_, ⟨fun h => absurd h (show ¬ (99 : Int) = 5 by decide), by show (ByteArray.extract _ _ _).size ≤ 600; rw [ex]; omega⟩, rfl⟩
  · have e4 : (x2 ++ (⟨#[1, 2, 3, 4]⟩ : ByteArray)).size = x2.size + 4 := ap _ _
    rw [if_pos rfl, if_pos (by omega), if_pos (by decide), if_pos (by rw [e4]; omega)]
    exact ⟨_, ⟨fun h => absurd h (show ¬ (1 : Int) = 5 by decide), by show (ByteArray.extract _ _ _).size ≤ 600; rw [ex]; omega⟩, rfl⟩
theorem data_ev (t : Int) (ns : List Int) (hl : ns.length * 1 ≤ 140737488351232) (hx : ∀ x ∈ ns, (Lit.int .u8 x).wf = true) (s : ByteArray) (hs : s.size ≤ 30) : ∃ r, DataOk r ∧ Ev (fun k => bolterlaw04_Data.f k t ns s) r := by
  obtain ⟨⟨K, hK⟩, nm⟩ := name_ev ns hl hx
  dsimp only at hK
  by_cases c : Int.tmod t 8 = 0
  · obtain ⟨r, h1, h2⟩ := data_tail nm s hs (Int.tmod t 8) (Int.tmod t 8 == 0) K
    refine ⟨r, h1, Ev.of (k := K + 1) (fun k => bolterlaw04_Data.mono t ns s k) ?_⟩
    unfold bolterlaw04_Data.f
    rw [hK _ (by omega), Option.bind_some, if_pos c]
    exact h2
  · obtain ⟨r, h1, h2⟩ := data_tail nm s hs (Int.tmod t 8) (Int.tmod t 8 == 1) K
    refine ⟨r, h1, Ev.of (k := K + 1) (fun k => bolterlaw04_Data.mono t ns s k) ?_⟩
    unfold bolterlaw04_Data.f
    rw [hK _ (by omega), Option.bind_some, if_neg c]
    exact h2
/-- A record's numbers, as they come in. -/
def ActOk (a : S86) : Prop := a.f0.length * 1 ≤ 140737488351232 ∧ (∀ x ∈ a.f0, (Lit.int .u8 x).wf = true) ∧ a.f3.length * 1 ≤ 140737488351232 ∧ (∀ x ∈ a.f3, (Lit.int .u8 x).wf = true)
/-- A record that may be. -/
def RecOk (r : S43) : Prop := r.f1 = 5 → ∃ ls, Nm r.f3 ls
theorem record_ev (a : S86) (ha : ActOk a) : ∃ r : S43, RecOk r ∧ Ev (fun k => bolterlaw05_Record.f k a.f0 a.f1 a.f2 a.f3 a.f4) (r.f0, r.f1, r.f2, r.f3) := by
  have em : 0 ≤ mn (a.f4.size : Int) 30 ∧ mn (a.f4.size : Int) 30 ≤ (a.f4.size : Int) ∧ mn (a.f4.size : Int) 30 ≤ 30 := by unfold mn; split <;> omega
  have es : (a.f4.extract 0 (mn (a.f4.size : Int) 30).toNat).size ≤ 30 := by rw [ByteArray.size_extract]; omega
  obtain ⟨⟨ty, d⟩, h1, K1, h2⟩ := data_ev (IntKind.u16.wrap a.f1) a.f3 ha.2.2.1 ha.2.2.2 _ es
  obtain ⟨⟨K2, h3⟩, _⟩ := name_ev a.f0 ha.1 ha.2.1
  dsimp only at h2 h3
  refine ⟨⟨mkB (enc (lbs a.f0)), ty, a.f2, d⟩, h1.1, K1 + K2, fun k hk => ?_⟩
  show bolterlaw05_Record.f k a.f0 a.f1 a.f2 a.f3 a.f4 = _
  unfold bolterlaw05_Record.f
  rw [if_pos em.1, if_pos em.2.1, h2 k (by omega), Option.bind_some, h3 k (by omega), Option.bind_some]
theorem rdT86 (l : List S86) (i : Nat) (h : i < l.length) : rd_T86 l (i : Int) = l[i] := by simp [rd_T86, List.getD_eq_getElem?_getD, h]
theorem records_loop (ac : List S86) (most : Nat) (ha : ∀ a ∈ ac, ActOk a) (hl : ac.length ≤ 140737488351232) (hm : most ≤ 100) (d : Nat) :
    ∀ (i : Nat) (acc : List S43), ac.length = i + d → (acc.length = min i most) → (∀ r ∈ acc, RecOk r) →
      ∃ rs : List S43, rs.length = min ac.length most ∧ (∀ r ∈ rs, RecOk r) ∧ Ev (fun k => bolterlaw05_Records.l0 k (most : Int) acc ac (ac.length : Int) i) rs := by
  induction d with
  | zero =>
    intro i acc hi hacc hr
    refine ⟨acc, by omega, hr, 1, fun k hk => ?_⟩
    obtain ⟨k, rfl⟩ : ∃ m, k = m + 1 := ⟨k - 1, by omega⟩
    simp only [bolterlaw05_Records.l0]
    rw [if_neg (by omega)]
  | succ d ih =>
    intro i acc hi hacc hr
    have hx : i < ac.length := by omega
    by_cases c : i < most
    · obtain ⟨r, hro, K1, h1⟩ := record_ev ac[i] (ha _ (List.getElem_mem hx))
      obtain ⟨rs, l1, l2, K2, h2⟩ := ih (i + 1) (acc ++ [r]) (by omega) (by rw [List.length_append, List.length_singleton]; omega) (by
        intro x hx'
        rcases List.mem_append.1 hx' with h | h
        · exact hr x h
        · rw [List.mem_singleton.1 h]; exact hro)
      dsimp only at h1 h2
      refine ⟨rs, l1, l2, K1 + K2 + 1, fun k hk => ?_⟩
      obtain ⟨k, rfl⟩ : ∃ m, k = m + 1 := ⟨k - 1, by omega⟩
      simp only [bolterlaw05_Records.l0]
      rw [if_pos (by omega), if_pos (by omega), if_pos (by omega), if_pos (by omega), rdT86 ac i hx, h1 k (by omega), Option.bind_some, if_pos (by omega), w64 (n := (i : Int) + 1) (by omega) (by omega)]
      rw [show ((i : Int) + 1) = ((i + 1 : Nat) : Int) from rfl]
      exact h2 k (by omega)
    · obtain ⟨rs, l1, l2, K2, h2⟩ := ih (i + 1) acc (by omega) (by omega) hr
      dsimp only at h2
      refine ⟨rs, l1, l2, K2 + 1, fun k hk => ?_⟩
      obtain ⟨k, rfl⟩ : ∃ m, k = m + 1 := ⟨k - 1, by omega⟩
      simp only [bolterlaw05_Records.l0]
      rw [if_pos (by omega), if_pos (by omega), if_pos (by omega), if_neg (by omega), w64 (n := (i : Int) + 1) (by omega) (by omega)]
      rw [show ((i : Int) + 1) = ((i + 1 : Nat) : Int) from rfl]
      exact h2 k (by omega)
theorem records_ev (ac : List S86) (most : Nat) (ha : ∀ a ∈ ac, ActOk a) (hl : ac.length ≤ 140737488351232) (hm : most ≤ 100) :
    ∃ rs : List S43, rs.length = min ac.length most ∧ (∀ r ∈ rs, RecOk r) ∧ Ev (fun k => bolterlaw05_Records.f k ac (most : Int)) rs := by
  obtain ⟨rs, l1, l2, K, h⟩ := records_loop ac most ha hl hm ac.length 0 [] (by omega) (by simp) (by simp)
  exact ⟨rs, l1, l2, K, fun k hk => h k hk⟩
end Go.Proofs.Ytdkjlbbbdjkhbaa.ActA
