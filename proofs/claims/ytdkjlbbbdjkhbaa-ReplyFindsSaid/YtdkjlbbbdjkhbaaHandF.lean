/- The contract of name.folded: for every text. -/
import Derived.Test.YtdkjlbbbdjkhbaaProg
import Derived.Below
import Derived.Deep.Draws
import Derived.Deep.AppendLies
import Derived.Maps.AppendAt
import Derived.OwnWalk
import Derived.Laws.BytesArg
import Derived.Laws.MakeOwn
import Derived.Laws.OwnMore
import Derived.Deep.OwnRows
import Derived.Tactics
import Derived.Lib.ConvBytes
import Derived.Laws.Slices
import Derived.WalkKit
import Derived.KernelRfl
import Derived.RowKit3
import Derived.Deep.LoopGhost
import Derived.Deep.QuietTactic
import Derived.BigQuiet
import Derived.WideLaws
import Derived.Lib.Hide
import Derived.RegionTactic
import Derived.ChangeAlike
import Derived.Lib.Strings
import Derived.Test.YtdkjlbbbdjkhbaaWWords
import Derived.Test.YtdkjlbbbdjkhbaaWLast
set_option linter.unusedVariables false
namespace Go.Proofs.Ytdkjlbbbdjkhbaa.Hand
open Go.RowKit Go.Proofs.YtdkjlbbbdjkhbaaW.PrintWords Go.Proofs.YtdkjlbbbdjkhbaaW.PrintLast

/-- A row of bytes that a conversion of a string has made: block g, of which xs are the first ones. -/
def Byt (e g : Nat) (w : World) (xs : List Int) : Prop :=
  ∃ cs : Array Value, w.heap[g]? = some (.cells cs e (cs.size, cs.size + 1)) ∧ xs.length ≤ cs.size ∧ ∀ j, j < xs.length → cs[j]? = some (.int .u8 (xs.getD j 0))
theorem Byt.lt {e g : Nat} {w : World} {xs : List Int} (h : Byt e g w xs) : g < w.heap.size := by
  obtain ⟨cs, h, _⟩ := h
  exact (Array.getElem?_eq_some_iff.1 h).1
theorem Byt.cell {e g : Nat} {w : World} {xs : List Int} (h : Byt e g w xs) (j : Nat) (hj : j < xs.length) : w.cell? ⟨g, j, none⟩ = some (.int .u8 (xs.getD j 0)) := by
  obtain ⟨cs, h, _, hc⟩ := h
  simp only [World.cell?, h]
  exact hc j hj
theorem Byt.frozen {e g : Nat} {w : World} {xs : List Int} (h : Byt e g w xs) (j : Nat) (hj : j < xs.length) : w.frozen? ⟨g, j, none⟩ = false := by
  obtain ⟨cs, h, hl, hc⟩ := h
  simp [World.frozen?, h]
  omega
theorem Byt.set {e g : Nat} {w : World} {xs : List Int} (h : Byt e g w xs) (j : Nat) (x : Int) : Byt e g (w.setCell ⟨g, j, none⟩ (.int .u8 x)) (xs.set j x) := by
  obtain ⟨cs, h, hl, hc⟩ := h
  refine ⟨cs.setIfInBounds j (.int .u8 x), ?_, by simpa using hl, ?_⟩
  · simp [World.setCell, Array.getElem?_modify, h]
  · intro i hi
    have hi' : i < xs.length := by simpa using hi
    rw [Array.getElem?_setIfInBounds]
    by_cases e : j = i
    · subst e
      rw [if_pos rfl, if_pos (by omega)]
      simp [List.getD_eq_getElem?_getD, hi']
    · rw [if_neg e, hc i hi']
      simp [List.getD_eq_getElem?_getD, e]
theorem Byt.keep {e g : Nat} {w w1 : World} {xs : List Int} (h : Byt e g w xs) (hk : w1.heap[g]? = w.heap[g]?) : Byt e g w1 xs := by
  obtain ⟨cs, h, r⟩ := h
  exact ⟨cs, hk.trans h, r⟩
theorem Byt.made (w : World) (e : TypeId) (s : ByteArray) : Byt e w.heap.size (Lib.bytesWorld w e s) (bytesOf s) := by
  have hl : (bytesOf s).length = s.size := bytesOf_length s
  refine ⟨Lib.bytesCells w e s, Lib.bytesWorld_at_new w e s, ?_, ?_⟩
  · rw [hl, Lib.bytesCells]
    simp
  · intro j hj
    have := Lib.bytesWorld_cell w e s j (by omega)
    simp only [World.cell?, Lib.bytesWorld_at_new] at this
    have h' : j < s.data.toList.length := by rw [data_length]; omega
    have t2 : (Lib.bytesCells w e s)[j]? = some (Value.int IntKind.u8 ↑(s.data.toList.getD j 0).toNat) := by simpa using this
    rw [t2]
    simp [bytesOf, List.getD_eq_getElem?_getD, List.getElem?_eq_getElem h']
theorem Byt.reads {e g : Nat} {w : World} {xs : List Int} (h : Byt e g w xs) (hl : xs.length ≤ maxLen) : ReadsInt w .u8 (some ⟨g, 0, none⟩) xs.length xs := by
  refine ⟨rfl, hl, fun _ => ⟨_, rfl, fun j hj => ?_⟩⟩
  rw [add_plain]
  exact h.cell j hj

/-! ### name.Fold, name.folded -/
def foldI (c : Int) : Int := if 65 ≤ c ∧ c ≤ 90 then c + 32 else c
set_option maxHeartbeats 1000000 in
theorem fold_any (c : Int) (w : World) (h0 : 0 ≤ c) (h1 : c ≤ 255) : Calls Try.prog 51 #[.int .u8 c] w fun e w' => e = .returned (.int .u8 (foldI c)) ∧ w = w' := by
  by_cases a : 65 ≤ c
  · by_cases b : c ≤ 90
    · have e : foldI c = c + 97 - 65 := by unfold foldI; rw [if_pos ⟨a, b⟩]; omega
      rw [e]
      go_enter Try.func51, Try.ntmps51
      go_wp2
      go_ret
      exact ⟨rfl, rfl⟩
    · have e : foldI c = c := by unfold foldI; rw [if_neg (by omega)]
      rw [e]
      have b2 : 90 < c := by omega
      go_enter Try.func51, Try.ntmps51
      go_wp2
      go_ret
      exact ⟨rfl, rfl⟩
  · have e : foldI c = c := by unfold foldI; rw [if_neg (by omega)]
    rw [e]
    have b2 : c < 65 := by omega
    go_enter Try.func51, Try.ntmps51
    go_wp2
    go_ret
    exact ⟨rfl, rfl⟩

/-- The first i numbers folded, the others as they are. -/
def foldTo (l : List Int) (i : Nat) : List Int := (l.take i).map foldI ++ l.drop i
theorem foldTo_length (l : List Int) (i : Nat) : (foldTo l i).length = l.length := by simp [foldTo]; omega
theorem foldTo_zero (l : List Int) : foldTo l 0 = l := by simp [foldTo]
theorem foldTo_all (l : List Int) : foldTo l l.length = l.map foldI := by simp [foldTo]
theorem foldTo_get (l : List Int) (i : Nat) (h : i < l.length) : (foldTo l i).getD i 0 = l.getD i 0 := by
  unfold foldTo
  rw [List.getD_eq_getElem?_getD, List.getElem?_append_right (by simp; omega)]
  simp [List.getD_eq_getElem?_getD, Nat.min_eq_left (Nat.le_of_lt h), h]
theorem foldTo_succ (l : List Int) (i : Nat) (h : i < l.length) : (foldTo l i).set i (foldI (l.getD i 0)) = foldTo l (i + 1) := by
  unfold foldTo
  rw [List.set_append_right _ _ (by simp; omega)]
  have e1 : i - ((l.take i).map foldI).length = 0 := by simp; omega
  have eg : l.getD i 0 = l[i] := by simp [List.getD_eq_getElem?_getD, h]
  rw [e1, eg, List.drop_eq_getElem_cons h, List.set_cons_zero, List.take_succ_eq_append_getElem h, List.map_append, List.append_assoc]
  rfl
def foldS (s : ByteArray) : ByteArray := strOfNums ((bytesOf s).map foldI)
theorem foldS_size (s : ByteArray) : (foldS s).size = s.size := by unfold foldS; rw [strOfNums_size, List.length_map, bytesOf_length]

set_option maxHeartbeats 4000000 in
set_option maxRecDepth 100000 in
theorem folded_any (a0 : ByteArray) (w : World) (hs : a0.size ≤ 140737488351232) :
    Calls Try.prog 46 #[.string a0] w fun e w' => e = .returned (.string (foldS a0)) ∧ Below w.heap.size w w' := by
  have kb := fun W => print_bytes (P := Try.prog) 9 22 5 Try.underlying9 Try.underlying22 Try.underlying5 a0 W
  go_enter Try.func46, Try.ntmps46
  go_wp2
  clear kb
  have B0 : Hid (Byt 5 w.heap.size (Lib.bytesWorld w 5 a0) (foldTo (bytesOf a0) 0)) := Lib.hid (by rw [foldTo_zero]; exact Byt.made w 5 a0)
  have D0 : Hid (Below w.heap.size w (Lib.bytesWorld w 5 a0)) := Lib.hid (bytes_below (Below.refl _ _) (Nat.le_refl _) 5 a0)
  generalize Lib.bytesWorld w 5 a0 = W0 at B0 D0 ⊢
  generalize grownCap w a0.size 0 5 = cap
  go_loopw [10] (fun v wr => ∃ k : Nat, v = .int .i64 (k : Int) ∧ k ≤ a0.size ∧ Hid (Byt 5 w.heap.size wr (foldTo (bytesOf a0) k)) ∧ Hid (Below w.heap.size w wr)) (fun v _ => (a0.size - (intOf v).toNat))
  case atStart => exact ⟨0, rfl, Nat.zero_le _, B0, D0⟩
  case round =>
    obtain ⟨k, rfl, k1, HBy, HD⟩ := hrel
    clear B0 D0
    have hl : (bytesOf a0).length = a0.size := bytesOf_length a0
    by_cases hlt : k < a0.size
    · have hj : k < (foldTo (bytesOf a0) k).length := by rw [foldTo_length, hl]; exact hlt
      have hcell := HBy.out.cell k hj
      have hfz := HBy.out.frozen k hj
      have ⟨r0, r1⟩ := bt_range a0 (k : Int)
      rw [foldTo_get _ _ (by rw [hl]; exact hlt)] at hcell
      have er : (bytesOf a0).getD k 0 = bt a0 (k : Int) := by rw [← rd_bytesOf]; simp [rd]
      have HS := Lib.hid (foldTo_succ (bytesOf a0) k (by rw [hl]; exact hlt))
      rw [er] at hcell HS
      generalize bt a0 (k : Int) = c at hcell HS r0 r1
      clear er hj hl
      go_wp2_with (go_at_call 51; refine (fold_any c _ r0 r1).mono ?_; rintro e w' ⟨rfl, rfl⟩)
      refine ⟨⟨k + 1, rfl, by omega, ?_, ?_⟩, by simp [intOf]; omega⟩
      · rw [← HS.out]; exact Lib.hid (HBy.out.set _ _)
      · exact Lib.hid (HD.out.setCell (p := ⟨w.heap.size, _, none⟩) (Nat.le_refl _) _)
    · have ek : k = a0.size := by omega
      have hrd : ReadsInt wr .u8 (some ⟨w.heap.size, 0, none⟩) a0.size (foldTo (bytesOf a0) k) := by
        have := HBy.out.reads (by rw [foldTo_length, hl]; unfold maxLen; omega)
        rwa [foldTo_length, hl] at this
      have hcv : (convert 22 9 (.slice (some ⟨w.heap.size, 0, none⟩) a0.size cap)).run Try.prog wr = .ok (.string (strOfNums (foldTo (bytesOf a0) k))) wr := string_of_reads Try.underlying22 Try.underlying5 Try.underlying9 hrd
      have EF : Hid (strOfNums (foldTo (bytesOf a0) k) = foldS a0) := Lib.hid (by rw [ek, ← hl, foldTo_all]; rfl)
      clear hrd ek hl
      go_wp2_with (fail)
      go_ret
      exact ⟨by rw [← EF.out]; rfl, HD.out⟩
def name_folded.f (a0 : ByteArray) : Option ByteArray := if a0.size ≤ 140737488351232 then some (foldS a0) else none
theorem name_folded.calls (a0 : ByteArray) (r : ByteArray) (w : World) (h : name_folded.f a0 = some r) :
    Calls Try.prog 46 #[.string a0] w fun e w' => e = .returned (.string r) ∧ Below w.heap.size w w' := by
  unfold name_folded.f at h
  by_cases c : a0.size ≤ 140737488351232
  · rw [if_pos c] at h
    obtain rfl := Option.some.inj h
    exact folded_any a0 w c
  · rw [if_neg c] at h; cases h

end Go.Proofs.Ytdkjlbbbdjkhbaa.Hand
