/- Part 1 of 4 of a proof, several texts one behind the other (HandF, HandB, HandM, PAllx0, HandS, PAllx10, PAllx11, MsgA, PAllx6, PAllx7, PAllx8, PAllx9, PAllx12): written by programs of these sessions and by hand. -/
import Derived.Test.YtdkjlbbbdjkhbaaProg
import Derived.Below
import Derived.Deep.Draws
import Derived.Deep.AppendLies
import Derived.Maps.AppendAt
import Derived.OwnWalk
import Derived.Laws.BytesArg
import Derived.Laws.MakeOwn
import Derived.Laws.OwnMore
import Derived.Deep.OwnRows
import Derived.Tactics
import Derived.Lib.ConvBytes
import Derived.Laws.Slices
import Derived.WalkKit
import Derived.KernelRfl
import Derived.RowKit3
import Derived.Deep.LoopGhost
import Derived.Deep.QuietTactic
import Derived.BigQuiet
import Derived.WideLaws
import Derived.Deep.DeepCutAuto
import Derived.Deep.CutBlock
import Derived.Deep.RegionHeld3
import Derived.Laws.Rows
import Derived.Lib.AppendStr
import Derived.ArgAppend
import Derived.Laws.IdiomCopy
import Derived.OrdersHeld
import Derived.Laws.BitsLemmas
import Derived.RowKit
import Derived.Lib.Hide
import Derived.RegionTactic
import Derived.ChangeAlike
import Derived.Lib.Strings
import Derived.Lib.Slices
import Derived.Lib.Walk
import Derived.Lib.Builder
import Derived.Lib.UnsafeStr
import Derived.Laws.Externs
import Derived.Laws.AppendOwn
import Derived.Shelf.Strings.Builder1
import Derived.Deep.MidRow
import Derived.ChangeArms
import Derived.SizedLaws
import Derived.ProofKit
import Derived.OpenShut
import Derived.ShutString
import Derived.ChangeOld
import Derived.Carry
import Derived.Test.YtdkjlbbbdjkhbaaWWords
import Derived.Test.YtdkjlbbbdjkhbaaWLast
import Derived.Test.YtdkjlbbbdjkhbaaWTab
import Derived.Test.YtdkjlbbbdjkhbaaWFour
import Derived.Test.YtdkjlbbbdjkhbaaWQPut
import Derived.Test.YtdkjlbbbdjkhbaaWApart
import Derived.Test.YtdkjlbbbdjkhbaaWArr
import Derived.Test.YtdkjlbbbdjkhbaaWZeros
import Derived.Test.YtdkjlbbbdjkhbaaWFoot
import Derived.Test.YtdkjlbbbdjkhbaaWKept
import Derived.Test.YtdkjlbbbdjkhbaaWShare
import Derived.Test.YtdkjlbbbdjkhbaaWN
import Derived.Test.YtdkjlbbbdjkhbaaWFootNe
import Derived.Test.YtdkjlbbbdjkhbaaWAt
import Derived.Test.YtdkjlbbbdjkhbaaWEqStruct
import Derived.Test.YtdkjlbbbdjkhbaaWRepsOne
import Derived.Test.YtdkjlbbbdjkhbaaWInv
import Derived.Test.YtdkjlbbbdjkhbaaWInvWords
import Derived.Test.YtdkjlbbbdjkhbaaWGuard
import Derived.Test.YtdkjlbbbdjkhbaaWNEv
import Derived.Test.YtdkjlbbbdjkhbaaWMore
set_option linter.unusedVariables false
set_option linter.unusedSimpArgs false
/- The contract of name.folded: for every text. -/
namespace Go.Proofs.Ytdkjlbbbdjkhbaa.Hand
open Go.RowKit Go.Proofs.YtdkjlbbbdjkhbaaW.PrintWords Go.Proofs.YtdkjlbbbdjkhbaaW.PrintLast

/-- A row of bytes that a conversion of a string has made: block g, of which xs are the first ones. -/
def Byt (e g : Nat) (w : World) (xs : List Int) : Prop :=
  ∃ cs : Array Value, w.heap[g]? = some (.cells cs e (cs.size, cs.size + 1)) ∧ xs.length ≤ cs.size ∧ ∀ j, j < xs.length → cs[j]? = some (.int .u8 (xs.getD j 0))
theorem Byt.lt {e g : Nat} {w : World} {xs : List Int} (h : Byt e g w xs) : g < w.heap.size := by
  obtain ⟨cs, h, _⟩ := h
  exact (Array.getElem?_eq_some_iff.1 h).1
theorem Byt.cell {e g : Nat} {w : World} {xs : List Int} (h : Byt e g w xs) (j : Nat) (hj : j < xs.length) : w.cell? ⟨g, j, none⟩ = some (.int .u8 (xs.getD j 0)) := by
  obtain ⟨cs, h, _, hc⟩ := h
  simp only [World.cell?, h]
  exact hc j hj
theorem Byt.frozen {e g : Nat} {w : World} {xs : List Int} (h : Byt e g w xs) (j : Nat) (hj : j < xs.length) : w.frozen? ⟨g, j, none⟩ = false := by
  obtain ⟨cs, h, hl, hc⟩ := h
  simp [World.frozen?, h]
  omega
theorem Byt.set {e g : Nat} {w : World} {xs : List Int} (h : Byt e g w xs) (j : Nat) (x : Int) : Byt e g (w.setCell ⟨g, j, none⟩ (.int .u8 x)) (xs.set j x) := by
  obtain ⟨cs, h, hl, hc⟩ := h
  refine ⟨cs.setIfInBounds j (.int .u8 x), ?_, by simpa using hl, ?_⟩
  · simp [World.setCell, Array.getElem?_modify, h]
  · intro i hi
    have hi' : i < xs.length := by simpa using hi
    rw [Array.getElem?_setIfInBounds]
    by_cases e : j = i
    · subst e
      rw [if_pos rfl, if_pos (by omega)]
      simp [List.getD_eq_getElem?_getD, hi']
    · rw [if_neg e, hc i hi']
      simp [List.getD_eq_getElem?_getD, e]
theorem Byt.keep {e g : Nat} {w w1 : World} {xs : List Int} (h : Byt e g w xs) (hk : w1.heap[g]? = w.heap[g]?) : Byt e g w1 xs := by
  obtain ⟨cs, h, r⟩ := h
  exact ⟨cs, hk.trans h, r⟩
theorem Byt.made (w : World) (e : TypeId) (s : ByteArray) : Byt e w.heap.size (Lib.bytesWorld w e s) (bytesOf s) := by
  have hl : (bytesOf s).length = s.size := bytesOf_length s
  refine ⟨Lib.bytesCells w e s, Lib.bytesWorld_at_new w e s, ?_, ?_⟩
  · rw [hl, Lib.bytesCells]
    simp
  · intro j hj
    have := Lib.bytesWorld_cell w e s j (by omega)
    simp only [World.cell?, Lib.bytesWorld_at_new] at this
    have h' : j < s.data.toList.length := by rw [data_length]; omega
    have t2 : (Lib.bytesCells w e s)[j]? = some (Value.int IntKind.u8 ↑(s.data.toList.getD j 0).toNat) := by simpa using this
    rw [t2]
    simp [bytesOf, List.getD_eq_getElem?_getD, List.getElem?_eq_getElem h']
theorem Byt.reads {e g : Nat} {w : World} {xs : List Int} (h : Byt e g w xs) (hl : xs.length ≤ maxLen) : ReadsInt w .u8 (some ⟨g, 0, none⟩) xs.length xs := by
  refine ⟨rfl, hl, fun _ => ⟨_, rfl, fun j hj => ?_⟩⟩
  rw [add_plain]
  exact h.cell j hj

/-! ### name.Fold, name.folded -/
def foldI (c : Int) : Int := if 65 ≤ c ∧ c ≤ 90 then c + 32 else c
set_option maxHeartbeats 1000000 in
theorem fold_any (c : Int) (w : World) (h0 : 0 ≤ c) (h1 : c ≤ 255) : Calls Try.prog 51 #[.int .u8 c] w fun e w' => e = .returned (.int .u8 (foldI c)) ∧ w = w' := by
  by_cases a : 65 ≤ c
  · by_cases b : c ≤ 90
    · have e : foldI c = c + 97 - 65 := by unfold foldI; rw [if_pos ⟨a, b⟩]; omega
      rw [e]
      go_enter Try.func51, Try.ntmps51
      go_wp2
      go_ret
      exact ⟨rfl, rfl⟩
    · have e : foldI c = c := by unfold foldI; rw [if_neg (by omega)]
      rw [e]
      have b2 : 90 < c := by omega
      go_enter Try.func51, Try.ntmps51
      go_wp2
      go_ret
      exact ⟨rfl, rfl⟩
  · have e : foldI c = c := by unfold foldI; rw [if_neg (by omega)]
    rw [e]
    have b2 : c < 65 := by omega
    go_enter Try.func51, Try.ntmps51
    go_wp2
    go_ret
    exact ⟨rfl, rfl⟩

/-- The first i numbers folded, the others as they are. -/
def foldTo (l : List Int) (i : Nat) : List Int := (l.take i).map foldI ++ l.drop i
theorem foldTo_length (l : List Int) (i : Nat) : (foldTo l i).length = l.length := by simp [foldTo]; omega
theorem foldTo_zero (l : List Int) : foldTo l 0 = l := by simp [foldTo]
theorem foldTo_all (l : List Int) : foldTo l l.length = l.map foldI := by simp [foldTo]
theorem foldTo_get (l : List Int) (i : Nat) (h : i < l.length) : (foldTo l i).getD i 0 = l.getD i 0 := by
  unfold foldTo
  rw [List.getD_eq_getElem?_getD, List.getElem?_append_right (by simp; omega)]
  simp [List.getD_eq_getElem?_getD, Nat.min_eq_left (Nat.le_of_lt h), h]
theorem foldTo_succ (l : List Int) (i : Nat) (h : i < l.length) : (foldTo l i).set i (foldI (l.getD i 0)) = foldTo l (i + 1) := by
  unfold foldTo
  rw [List.set_append_right _ _ (by simp; omega)]
  have e1 : i - ((l.take i).map foldI).length = 0 := by simp; omega
  have eg : l.getD i 0 = l[i] := by simp [List.getD_eq_getElem?_getD, h]
  rw [e1, eg, List.drop_eq_getElem_cons h, List.set_cons_zero, List.take_succ_eq_append_getElem h, List.map_append, List.append_assoc]
  rfl
def foldS (s : ByteArray) : ByteArray := strOfNums ((bytesOf s).map foldI)
theorem foldS_size (s : ByteArray) : (foldS s).size = s.size := by unfold foldS; rw [strOfNums_size, List.length_map, bytesOf_length]

set_option maxHeartbeats 4000000 in
set_option maxRecDepth 100000 in
theorem folded_any (a0 : ByteArray) (w : World) (hs : a0.size ≤ 140737488351232) :
    Calls Try.prog 46 #[.string a0] w fun e w' => e = .returned (.string (foldS a0)) ∧ Below w.heap.size w w' := by
  have kb := fun W => print_bytes (P := Try.prog) 9 22 5 Try.underlying9 Try.underlying22 Try.underlying5 a0 W
  go_enter Try.func46, Try.ntmps46
  go_wp2
  clear kb
  have B0 : Hid (Byt 5 w.heap.size (Lib.bytesWorld w 5 a0) (foldTo (bytesOf a0) 0)) := Lib.hid (by rw [foldTo_zero]; exact Byt.made w 5 a0)
  have D0 : Hid (Below w.heap.size w (Lib.bytesWorld w 5 a0)) := Lib.hid (bytes_below (Below.refl _ _) (Nat.le_refl _) 5 a0)
  generalize Lib.bytesWorld w 5 a0 = W0 at B0 D0 ⊢
  generalize grownCap w a0.size 0 5 = cap
  go_loopw [10] (fun v wr => ∃ k : Nat, v = .int .i64 (k : Int) ∧ k ≤ a0.size ∧ Hid (Byt 5 w.heap.size wr (foldTo (bytesOf a0) k)) ∧ Hid (Below w.heap.size w wr)) (fun v _ => (a0.size - (intOf v).toNat))
  case atStart => exact ⟨0, rfl, Nat.zero_le _, B0, D0⟩
  case round =>
    obtain ⟨k, rfl, k1, HBy, HD⟩ := hrel
    clear B0 D0
    have hl : (bytesOf a0).length = a0.size := bytesOf_length a0
    by_cases hlt : k < a0.size
    · have hj : k < (foldTo (bytesOf a0) k).length := by rw [foldTo_length, hl]; exact hlt
      have hcell := HBy.out.cell k hj
      have hfz := HBy.out.frozen k hj
      have ⟨r0, r1⟩ := bt_range a0 (k : Int)
      rw [foldTo_get _ _ (by rw [hl]; exact hlt)] at hcell
      have er : (bytesOf a0).getD k 0 = bt a0 (k : Int) := by rw [← rd_bytesOf]; simp [rd]
      have HS := Lib.hid (foldTo_succ (bytesOf a0) k (by rw [hl]; exact hlt))
      rw [er] at hcell HS
      generalize bt a0 (k : Int) = c at hcell HS r0 r1
      clear er hj hl
      go_wp2_with (go_at_call 51; refine (fold_any c _ r0 r1).mono ?_; rintro e w' ⟨rfl, rfl⟩)
      refine ⟨⟨k + 1, rfl, by omega, ?_, ?_⟩, by simp [intOf]; omega⟩
      · rw [← HS.out]; exact Lib.hid (HBy.out.set _ _)
      · exact Lib.hid (HD.out.setCell (p := ⟨w.heap.size, _, none⟩) (Nat.le_refl _) _)
    · have ek : k = a0.size := by omega
      have hrd : ReadsInt wr .u8 (some ⟨w.heap.size, 0, none⟩) a0.size (foldTo (bytesOf a0) k) := by
        have := HBy.out.reads (by rw [foldTo_length, hl]; unfold maxLen; omega)
        rwa [foldTo_length, hl] at this
      have hcv : (convert 22 9 (.slice (some ⟨w.heap.size, 0, none⟩) a0.size cap)).run Try.prog wr = .ok (.string (strOfNums (foldTo (bytesOf a0) k))) wr := string_of_reads Try.underlying22 Try.underlying5 Try.underlying9 hrd
      have EF : Hid (strOfNums (foldTo (bytesOf a0) k) = foldS a0) := Lib.hid (by rw [ek, ← hl, foldTo_all]; rfl)
      clear hrd ek hl
      go_wp2_with (fail)
      go_ret
      exact ⟨by rw [← EF.out]; rfl, HD.out⟩
def name_folded.f (a0 : ByteArray) : Option ByteArray := if a0.size ≤ 140737488351232 then some (foldS a0) else none
theorem name_folded.calls (a0 : ByteArray) (r : ByteArray) (w : World) (h : name_folded.f a0 = some r) :
    Calls Try.prog 46 #[.string a0] w fun e w' => e = .returned (.string r) ∧ Below w.heap.size w w' := by
  unfold name_folded.f at h
  by_cases c : a0.size ≤ 140737488351232
  · rw [if_pos c] at h
    obtain rfl := Option.some.inj h
    exact folded_any a0 w c
  · rw [if_neg c] at h; cases h

end Go.Proofs.Ytdkjlbbbdjkhbaa.Hand

namespace Go.Proofs.Ytdkjlbbbdjkhbaa.Hand
open Go.RowKit

/-! ### strings.Builder over this program: copyCheck, WriteByte, WriteString, Write -/
set_option maxHeartbeats 1000000 in
set_option maxRecDepth 100000 in
theorem copyCheck_used (b : Nat) (w : World) (h0 : w.cell? ⟨b, 0, none⟩ = some (.pointer (some ⟨b, 0, none⟩))) :
    Calls Try.prog 50 #[.pointer (some ⟨b, 0, none⟩)] w fun e w' => e = .returned (.tuple #[]) ∧ w' = w := by
  obtain ⟨j, hj, _⟩ := Option.map_eq_some_iff.1 (show (Try.prog.info? 91).map (·.size) = some 2 by kernel_rfl)
  go_enter Try.func50, Try.ntmps50
  go_wp2
  rw [Lib.run_neq_ptr_same w _ Try.underlying89 hj]
  go_wp2
  go_end0
  exact ⟨rfl, rfl⟩

set_option maxHeartbeats 1000000 in
set_option maxRecDepth 100000 in
theorem copyCheck_fresh (b : Nat) (w : World) (h0 : w.cell? ⟨b, 0, none⟩ = some (.pointer none)) (hsh : w.shape? b = some (91, 2)) (hfz : w.frozen? ⟨b, 0, none⟩ = false) :
    Calls Try.prog 50 #[.pointer (some ⟨b, 0, none⟩)] w fun e w' => e = .returned (.tuple #[]) ∧ w' = w.setCell ⟨b, 0, none⟩ (.pointer (some ⟨b, 0, none⟩)) := by
  obtain ⟨j, hj, hjs⟩ := Option.map_eq_some_iff.1 (show (Try.prog.info? 91).map (·.size) = some 2 by kernel_rfl)
  go_enter Try.func50, Try.ntmps50
  go_wp2
  rw [Lib.run_to_unsafe w ⟨b, 0, none⟩ Try.underlying89 Try.underlying106 hj (by rw [hjs]; decide) hsh (Nat.zero_lt_succ 1)]
  simp only [Result.andThen]
  rw [Oper.upon_value]
  go_wp2
  rw [run_callFunc_extern Try.func52 (by kernel_rfl) (by kernel_rfl) (by kernel_rfl) (e := Extern.AbiNoEscape.same) (by kernel_rfl)]
  rw [Lib.run_noEscape]
  simp only [Result.andThen]
  rw [Oper.upon_value]
  go_wp2
  rw [Lib.run_from_unsafe w ⟨b, 0, none⟩ Try.underlying106 Try.underlying89 hj hsh (by kernel_rfl)]
  simp only [Result.andThen]
  rw [Oper.upon_value]
  go_wp2
  go_end0
  exact ⟨rfl, rfl⟩

theorem copyCheck_any (B b : Nat) (bs : List Value) (w : World) (h : Lib.IsBuilder 91 5 B b bs w) :
    Calls Try.prog 50 #[.pointer (some ⟨b, 0, none⟩)] w fun e w' => e = .returned (.tuple #[]) ∧ (Lib.BuilderAt 91 5 B b (.pointer (some ⟨b, 0, none⟩)) bs w' ∧ Below B w w') := by
  rcases h with h | h
  · refine (copyCheck_fresh b w h.cell0 h.shape h.frozen0).mono ?_
    rintro e w' ⟨rfl, rfl⟩
    exact ⟨rfl, h.used _, (Below.refl B w).setCell (p := ⟨b, 0, none⟩) h.1 _⟩
  · refine (copyCheck_used b w h.cell0).mono ?_
    rintro e w' ⟨rfl, rfl⟩
    exact ⟨rfl, h, Below.refl B _⟩

theorem infoU8 : (Try.prog.info? 5).map (fun i => (i.zero, i.size, i.bytes)) = some (some (.int .u8 0), 1, 1) := by kernel_rfl
theorem heap_lt {w : World} {b : Nat} {o : Obj} (h : w.heap[b]? = some o) : b < w.heap.size := (Array.getElem?_eq_some_iff.1 h).1

set_option maxHeartbeats 2000000 in
set_option maxRecDepth 100000 in
theorem writeByte_any (B b : Nat) (bs : List Value) (c : Int) (w : World) (h : Lib.IsBuilder 91 5 B b bs w) (hlen : bs.length + 1 ≤ 140737488355328) (hBw : B ≤ w.heap.size) :
    Calls Try.prog 44 #[.pointer (some ⟨b, 0, none⟩), .int .u8 c] w fun e w' => e = .returned .nilIface ∧ (Lib.BuilderAt 91 5 B b (.pointer (some ⟨b, 0, none⟩)) (bs ++ [.int .u8 c]) w' ∧ Below B w w') := by
  obtain ⟨i0, hi, hz0, hz1, hz2⟩ := info_parts infoU8
  go_enter Try.func44, Try.ntmps44
  go_wp2_with (go_at_call 50; refine (copyCheck_any B b bs _ h).mono ?_)
  rintro e w1 ⟨rfl, h1, hb1⟩
  obtain ⟨hB, v, hbk, hown, hne⟩ := h1
  have c0 : w1.cell? ⟨b, 0, none⟩ = some (.pointer (some ⟨b, 0, none⟩)) := by rw [Lib.cell_of_heap hbk]; rfl
  have c1 : w1.cell? ⟨b, 1, none⟩ = some v := by rw [Lib.cell_of_heap hbk]; rfl
  go_wp2_with (at_builtin; refine wpList_append_own _ rfl _ _ 22 rfl B 5 i0 (.int .u8 0) 1 1 Try.underlying22 hi hz0 hz1 hz2 rfl (by decide) _ _ _ rfl (hown.alloc _) ⟨w1.heap.size, 0, none⟩ 1 1 [.int .u8 c] rfl rfl ?c1 ?c2 ?c3 ?c4 ?c5 ?_)
  case c1 =>
    intro j u hj
    match j, hj with
    | 0, hj => simp at hj; subst hj; simp [Addr.add]
  case c2 => intro u hu; simp at hu; subst hu; rfl
  case c3 => unfold maxLen; omega
  case c4 => omega
  case c5 => have := hb1.size; simp; omega
  intro v' w2 hown' hgrow _
  have hlt : b < w1.heap.size := heap_lt hbk
  have hb2 : w2.heap[b]? = some (.cells #[.pointer (some ⟨b, 0, none⟩), v] 91 (0, 0)) := by
    rw [hgrow.block b (by simp; omega) (fun e => hne e.symm), Lib.alloc_old w1 _ b hlt]
    exact hbk
  have d0 : w2.cell? ⟨b, 0, none⟩ = some (.pointer (some ⟨b, 0, none⟩)) := by rw [Lib.cell_of_heap hb2]; rfl
  have d1 : w2.cell? ⟨b, 1, none⟩ = some v := by rw [Lib.cell_of_heap hb2]; rfl
  have f1 : w2.frozen? ⟨b, 1, none⟩ = false := Lib.frozen_of_heap hb2 1
  obtain ⟨g, cap, rfl⟩ : ∃ g cap, v' = .slice (some ⟨g, 0, none⟩) (bs.length + 1) cap := by
    rcases hown'.2 with ⟨_, h0⟩ | ⟨g, cap, cur, hv, _⟩
    · omega
    · exact ⟨g, cap, hv⟩
  go_wp2
  go_ret
  refine ⟨rfl, ?_, ?_⟩
  · exact Lib.BuilderAt.put (T := 91) (e := 5) hB hb2 (bs' := bs ++ [.int .u8 c]) (by simpa using hown') (by decide)
  · exact ((hb1.alloc (by have := hb1.size; omega) _).grown hgrow (by have := hb1.size; simp; omega) (fun k hk => (hown.lt k hk).1)).setCell (p := ⟨b, 1, none⟩) hB _

set_option maxHeartbeats 2000000 in
set_option maxRecDepth 100000 in
theorem writeString_any (B b : Nat) (bs : List Value) (s : ByteArray) (w : World) (h : Lib.IsBuilder 91 5 B b bs w) (hlen : bs.length + s.size ≤ 140737488355328) (hBw : B ≤ w.heap.size) :
    Calls Try.prog 45 #[.pointer (some ⟨b, 0, none⟩), .string s] w fun e w' => e = .returned (.tuple #[.int .i64 s.size, .nilIface]) ∧ (Lib.BuilderAt 91 5 B b (.pointer (some ⟨b, 0, none⟩)) (bs ++ Lib.strCells s) w' ∧ Below B w w') := by
  obtain ⟨i0, hi, hz0, hz1, hz2⟩ := info_parts infoU8
  go_enter Try.func45, Try.ntmps45
  go_wp2_with (go_at_call 50; refine (copyCheck_any B b bs _ h).mono ?_)
  rintro e w1 ⟨rfl, h1, hb1⟩
  obtain ⟨hB, v, hbk, hown, hne⟩ := h1
  have c0 : w1.cell? ⟨b, 0, none⟩ = some (.pointer (some ⟨b, 0, none⟩)) := by rw [Lib.cell_of_heap hbk]; rfl
  have c1 : w1.cell? ⟨b, 1, none⟩ = some v := by rw [Lib.cell_of_heap hbk]; rfl
  go_wp2_with (at_builtin; refine Lib.wpList_append_own_string _ rfl _ _ 22 9 rfl B 5 i0 Try.underlying22 Try.underlying9 hi hz0 hz1 hz2 _ _ _ rfl hown s rfl ?c3 ?c4 ?c5 ?_)
  case c3 => unfold maxLen; omega
  case c4 => omega
  case c5 => have := hb1.size; omega
  intro v' w2 hown' hgrow _
  have hlt : b < w1.heap.size := heap_lt hbk
  have hb2 : w2.heap[b]? = some (.cells #[.pointer (some ⟨b, 0, none⟩), v] 91 (0, 0)) := by
    rw [hgrow.block b hlt (fun e => hne e.symm)]
    exact hbk
  have d0 : w2.cell? ⟨b, 0, none⟩ = some (.pointer (some ⟨b, 0, none⟩)) := by rw [Lib.cell_of_heap hb2]; rfl
  have d1 : w2.cell? ⟨b, 1, none⟩ = some v := by rw [Lib.cell_of_heap hb2]; rfl
  have f1 : w2.frozen? ⟨b, 1, none⟩ = false := Lib.frozen_of_heap hb2 1
  obtain ⟨ao, n', cap, rfl⟩ : ∃ ao n' cap, v' = .slice ao n' cap := by
    rcases hown'.2 with ⟨hv, _⟩ | ⟨g, cap, cur, hv, _⟩
    · exact ⟨_, _, _, hv⟩
    · exact ⟨_, _, _, hv⟩
  go_wp2
  go_ret2
  refine ⟨rfl, ?_, ?_⟩
  · exact Lib.BuilderAt.put (T := 91) (e := 5) hB hb2 (bs' := bs ++ Lib.strCells s) (by simpa [Lib.strCells_length] using hown') (by decide)
  · exact (hb1.grown hgrow (by have := hb1.size; omega) (fun k hk => (hown.lt k hk).1)).setCell (p := ⟨b, 1, none⟩) hB _

end Go.Proofs.Ytdkjlbbbdjkhbaa.Hand

/- The contract of name.Make: for every list of texts. -/
namespace Go.Proofs.Ytdkjlbbbdjkhbaa.Hand
open Go.RowKit Go.Proofs.YtdkjlbbbdjkhbaaW.PrintWords Go.Proofs.YtdkjlbbbdjkhbaaW.PrintLast

open Go.Shelf Go.Proofs
def shelf_lays170_ren : Go.Shelf.Ren := ⟨fun | 170 => 43 | n => n, fun | 70 => 89 | 3 => 3 | 0 => 0 | 72 => 91 | 37 => 22 | 5 => 5 | n => n, fun | n => n⟩
theorem shelf_lays170 : Go.Proofs.Lays.n170 Try.prog shelf_lays170_ren := {
  mixed := by kernel_rfl
  f170 := Try.func43.trans (congrArg some (by kernel_rfl))
  t0 := Try.underlying0
  a0 := Try.isAgg0
  z0 := Try.sizeOf0
  v0 := Try.zeroValue0
  t3 := Try.underlying3
  a3 := Try.isAgg3
  z3 := Try.sizeOf3
  v3 := Try.zeroValue3
  t37 := Try.underlying22
  a37 := Try.isAgg22
  z37 := Try.sizeOf22
  v37 := Try.zeroValue22
  t70 := Try.underlying89
  a70 := Try.isAgg89
  z70 := Try.sizeOf89
  v70 := Try.zeroValue89
  t72 := Try.underlying91
  a72 := Try.isAgg91
  z72 := Try.sizeOf91
  v72 := Try.zeroValue91 }
open Go.RowKit in
/-- Laid from the shelf. -/
theorem shelf_Builder_Len (B b : Nat) (bs : List Value) (w : World) (h : Lib.IsBuilder 91 5 B b bs w) :
    Calls Try.prog 43 #[.pointer (some ⟨b, 0, none⟩)] w fun e w' => e = .returned (.int .i64 bs.length) ∧ w' = w := Any.Builder_Len shelf_lays170 B b bs w h
def shelf_lays169_ren : Go.Shelf.Ren := ⟨fun | 169 => 47 | n => n, fun | 70 => 89 | 9 => 9 | 0 => 0 | 72 => 91 | 37 => 22 | 127 => 105 | 3 => 3 | 5 => 5 | n => n, fun | n => n⟩
theorem shelf_lays169 : Go.Proofs.Lays.n169 Try.prog shelf_lays169_ren := {
  mixed := by kernel_rfl
  f169 := Try.func47.trans (congrArg some (by kernel_rfl))
  t0 := Try.underlying0
  a0 := Try.isAgg0
  z0 := Try.sizeOf0
  v0 := Try.zeroValue0
  t3 := Try.underlying3
  a3 := Try.isAgg3
  z3 := Try.sizeOf3
  v3 := Try.zeroValue3
  t9 := Try.underlying9
  a9 := Try.isAgg9
  z9 := Try.sizeOf9
  v9 := Try.zeroValue9
  t37 := Try.underlying22
  a37 := Try.isAgg22
  z37 := Try.sizeOf22
  v37 := Try.zeroValue22
  t70 := Try.underlying89
  a70 := Try.isAgg89
  z70 := Try.sizeOf89
  v70 := Try.zeroValue89
  t72 := Try.underlying91
  a72 := Try.isAgg91
  z72 := Try.sizeOf91
  v72 := Try.zeroValue91
  t127 := Try.underlying105
  a127 := Try.isAgg105
  z127 := Try.sizeOf105
  v127 := Try.zeroValue105 }
theorem shelf_Builder_Extra_169 : Builder.Extra Try.prog shelf_lays169_ren := {
  sizeBuilder := by kernel_rfl
  liesBuilder := by kernel_rfl
  t5 := Try.underlying5
  a5 := Try.isAgg5
  z5 := Try.sizeOf5
  v5 := Try.zeroValue5
  infoByte := by kernel_rfl
  cellsByte := by kernel_rfl
  sizeByte := by kernel_rfl
  neB5 := by decide }
open Go.RowKit in
/-- Laid from the shelf. -/
theorem shelf_Builder_String_any (B b : Nat) (l : List UInt8) (w : World) (h : Lib.IsBuilder 91 5 B b (Lib.byteCells l) w) (hBw : B ≤ w.heap.size) :
    Calls Try.prog 47 #[.pointer (some ⟨b, 0, none⟩)] w fun e w' => e = .returned (.string ⟨l.toArray⟩) ∧ Below B w w' := Any.Builder_String_any shelf_lays169 shelf_Builder_Extra_169 B b l w h hBw

/-! ### name.Make -/
def lab (l : ByteArray) : List UInt8 := UInt8.ofNat l.size :: (foldS l).data.toList
theorem lab_length (l : ByteArray) : (lab l).length = l.size + 1 := by
  have : (foldS l).data.toList.length = (foldS l).size := by rw [Array.length_toList]; rfl
  unfold lab; rw [List.length_cons, this, foldS_size]
/-- What is written when the labels up to here have been, and the others. -/
def makeGo : List ByteArray → List UInt8 → ByteArray × Bool
  | [], acc => (⟨acc.toArray⟩, true)
  | l :: ls, acc => if l.size < 1 ∨ 63 < l.size ∨ 254 < acc.length + 1 + l.size then ((⟨#[]⟩ : ByteArray), false) else makeGo ls (acc ++ lab l)
def name_Make.f (l0 : List ByteArray) : Option (ByteArray × Bool) := if l0.length ≤ 140737488351232 then some (makeGo l0 []) else none

theorem IsBuilder_drewN {T e : TypeId} {B b : Nat} {bs : List Value} {w : World} (h : Lib.IsBuilder T e B b bs w) (n : Nat) : Lib.IsBuilder T e B b bs (w.drewN n) := h
theorem byteCells_lab (l : ByteArray) (h : l.size ≤ 255) (acc : List UInt8) : Lib.byteCells acc ++ [.int .u8 (l.size : Int)] ++ Lib.strCells (foldS l) = Lib.byteCells (acc ++ lab l) := by
  rw [Lib.strCells_eq, Lib.byteCells_append]
  unfold lab
  simp [Lib.byteCells]
  omega

theorem builder_below {T e : TypeId} {B b : Nat} {p : Value} {bs : List Value} {w w1 : World} (h : Lib.BuilderAt T e B b p bs w) (hb : Below w.heap.size w w1) : Lib.BuilderAt T e B b p bs w1 := by
  obtain ⟨hB, v, hbk, hown, hne⟩ := h
  exact ⟨hB, v, blk_below hbk hb, pw_own_below hown hb, hne⟩

set_option maxHeartbeats 8000000 in
set_option maxRecDepth 100000 in
theorem make_any (A0 : Option Addr) (c0 : Nat) (l0 : List ByteArray) (w : World) (hr0 : Kd.C Kd.string w A0 l0.length l0) (hlen : l0.length ≤ 140737488351232) :
    Calls Try.prog 36 #[.slice A0 l0.length c0] w fun e w' => e = .returned (.tuple #[.string (makeGo l0 []).1, .bool (makeGo l0 []).2]) ∧ Below w.heap.size w w' := by
  have HR := Lib.hid hr0
  clear hr0
  go_enter Try.func36, Try.ntmps36
  have IB : Hid (Lib.IsBuilder 91 5 w.heap.size w.heap.size (Lib.byteCells []) (w.alloc (.cells #[.pointer none, .slice none 0 0] 91))) := Lib.hid (Lib.fresh_isBuilder 91 5 w)
  have HB : Hid (Below w.heap.size w (w.alloc (.cells #[.pointer none, .slice none 0 0] 91))) := Lib.hid ((Below.refl _ _).alloc (Nat.le_refl _) _)
  have hsz : w.heap.size < (w.alloc (.cells #[.pointer none, .slice none 0 0] 91)).heap.size := by simp
  go_wp2_with (fail)
  generalize (w.alloc (.cells #[.pointer none, .slice none 0 0] 91)) = W0 at IB HB hsz ⊢
  go_loopw [9] (fun v wr => ∃ (k : Nat) (acc : List UInt8), v = .int .i64 (k : Int) ∧ k ≤ l0.length ∧ acc.length ≤ 254 ∧ Hid (makeGo (l0.drop k) acc = makeGo l0 []) ∧ Hid (Lib.IsBuilder 91 5 w.heap.size w.heap.size (Lib.byteCells acc) wr) ∧ Hid (Below w.heap.size w wr) ∧ w.heap.size < wr.heap.size) (fun v _ => (l0.length - (intOf v).toNat))
  case atStart => exact ⟨0, [], rfl, Nat.zero_le _, by simp, Lib.hid rfl, IB, HB, hsz⟩
  case round =>
    obtain ⟨k, acc, rfl, k1, ha, HE, HI, HD, hbs⟩ := hrel
    clear IB HB hsz
    by_cases hlt : k < l0.length
    · obtain ⟨ad, rfl, hcell⟩ := Kd.at_string (Kd.C_below HR.out HD.out) (k : Int) (by omega) (by omega)
      have el : rdOf ByteArray.empty l0 (k : Int) = l0[k] := by simp [rdOf, List.getD_eq_getElem?_getD, hlt]
      rw [el] at hcell
      have hE := HE.out
      rw [List.drop_eq_getElem_cons hlt, makeGo] at hE
      clear HE el
      generalize l0[k] = l at hcell hE
      rw [Int.toNat_natCast] at hcell
      by_cases b1 : l.size < 1
      · rw [if_pos (.inl b1)] at hE
        have HF := Lib.hid hE
        clear hE
        go_wp2_with (fail)
        go_ret2
        exact ⟨by (rw [← HF.out]) <;> rfl, HD.out⟩
      · by_cases b2 : 63 < l.size
        · rw [if_pos (.inr (.inl b2))] at hE
          have HF := Lib.hid hE
          clear hE
          go_wp2_with (fail)
          go_ret2
          exact ⟨by (rw [← HF.out]) <;> rfl, HD.out⟩
        · have hL : (Lib.byteCells acc).length = acc.length := Lib.byteCells_length acc
          by_cases b3 : 254 < acc.length + 1 + l.size
          · rw [if_pos (.inr (.inr b3))] at hE
            have HF := Lib.hid hE
            have HL := Lib.hid hL
            clear hE hL
            go_wp2_with (go_at_call 43; refine (shelf_Builder_Len _ _ _ _ HI.out).mono ?_)
            rintro e w2 ⟨rfl, rfl⟩
            rw [HL.out]
            go_wp2_with (fail)
            go_ret2
            exact ⟨by (rw [← HF.out]) <;> rfl, HD.out⟩
          · rw [if_neg (by omega)] at hE
            have HF := Lib.hid hE
            have HL := Lib.hid hL
            clear hE hL
            go_wp2_with (go_at_call 43; refine (shelf_Builder_Len _ _ _ _ HI.out).mono ?_)
            rintro e w2 ⟨rfl, rfl⟩
            rw [HL.out]
            go_wp2_with (go_at_call 44; refine (writeByte_any w.heap.size w.heap.size (Lib.byteCells acc) (l.size : Int) _ HI.out (by rw [HL.out]; omega) (Nat.le_of_lt hbs)).mono ?_)
            rintro e w3 ⟨rfl, hI3, hb3⟩
            clear hcell
            have hbs3 : w.heap.size < w3.heap.size := Nat.lt_of_lt_of_le hbs hb3.size
            go_wp2_with (go_at_call 46; refine (folded_any l _ (by omega)).mono ?_)
            rintro e w4 ⟨rfl, hb4⟩
            have hI4 := builder_below hI3 hb4
            have hbs4 : w.heap.size < w4.heap.size := Nat.lt_of_lt_of_le hbs3 hb4.size
            have hf := foldS_size l
            have HFS := Lib.hid hf
            clear hf
            go_wp2_with (go_at_call 45; refine (writeString_any w.heap.size w.heap.size _ (foldS l) _ (.inr hI4) (by rw [List.length_append, HL.out, HFS.out]; simp; omega) (Nat.le_of_lt hbs4)).mono ?_)
            rintro e w5 ⟨rfl, hI5, hb5⟩
            go_wp2_with (fail)
            refine ⟨⟨k + 1, acc ++ lab l, rfl, by omega, by rw [List.length_append, lab_length]; omega, HF, ?_, ?_, ?_⟩, by simp [intOf]; omega⟩
            · rw [← byteCells_lab l (by omega)]; exact Lib.hid (.inr hI5)
            · exact Lib.hid (HD.out.trans (hb3.trans ((hb4.mono (Nat.le_of_lt hbs3)).trans hb5)))
            · exact Nat.lt_of_lt_of_le hbs4 hb5.size
    · have hE := HE.out
      rw [List.drop_of_length_le (by omega), makeGo] at hE
      have HF := Lib.hid hE
      clear hE HE
      go_wp2_with (go_at_call 47; refine (shelf_Builder_String_any w.heap.size w.heap.size acc _ HI.out (Nat.le_of_lt hbs)).mono ?_)
      rintro e w3 ⟨rfl, hb3⟩
      go_wp2_with (fail)
      go_ret2
      exact ⟨by (rw [← HF.out]) <;> rfl, HD.out.trans hb3⟩
theorem name_Make.calls (A0 : Option Addr) (c0 : Nat) (l0 : List ByteArray) (r1 : ByteArray) (r2 : Bool) (w : World) (hr0 : Kd.C Kd.string w A0 l0.length l0) (hc0 : l0.length ≤ c0) (h : name_Make.f l0 = some (r1, r2)) :
    Calls Try.prog 36 #[.slice A0 l0.length c0] w fun e w' => e = .returned (.tuple #[.string r1, .bool r2]) ∧ Below w.heap.size w w' := by
  unfold name_Make.f at h
  by_cases c : l0.length ≤ 140737488351232
  · rw [if_pos c] at h
    have := Option.some.inj h
    obtain ⟨rfl, rfl⟩ := Prod.mk.inj this
    exact make_any A0 c0 l0 w hr0 c
  · rw [if_neg c] at h; cases h

end Go.Proofs.Ytdkjlbbbdjkhbaa.Hand

namespace Go.Proofs.Ytdkjlbbbdjkhbaa.PAll
open Go.RowKit Go.Proofs.YtdkjlbbbdjkhbaaW.PrintWords Go.Proofs.YtdkjlbbbdjkhbaaW.PrintLast Go.Proofs.YtdkjlbbbdjkhbaaW.PrintMore
attribute [local go_sem] max2_int min2_int max_two min_two max_three min_three max_four min_four   -- for this text's walks alone
open Go.Proofs.Ytdkjlbbbdjkhbaa.Hand



def errW : Option Int → Value
 | none => .nilIface
 | some c => .iface 0 (.int .i64 c)
theorem errW_none : errW none = .nilIface := rfl
theorem errW_some (c : Int) : errW (some c) = .iface 0 (.int .i64 c) := rfl

theorem info5 : (Try.prog.info? 5).map (fun i => (i.zero, i.size, i.bytes)) = some (some (.int .u8 0), 1, 1) := by kernel_rfl
theorem info9 : (Try.prog.info? 9).map (fun i => (i.zero, i.size, i.bytes)) = some (some (.string ⟨#[]⟩), 1, 16) := by kernel_rfl
theorem info25 : (Try.prog.info? 25).map (fun i => (i.zero, i.size, i.bytes)) = some (some (.string ⟨#[]⟩), 1, 16) := by kernel_rfl
theorem info40 : (Try.prog.info? 40).map (fun i => (i.zero, i.size, i.bytes)) = some (some (.int .u16 0), 1, 2) := by kernel_rfl
theorem info43 : (Try.prog.info? 43).map (fun i => (i.zero, i.size, i.bytes)) = some (some (.agg #[(.string ⟨#[]⟩), (.int .u16 0), (.int .u32 0), (.string ⟨#[]⟩)]), 4, 40) := by kernel_rfl
theorem info74 : (Try.prog.info? 74).map (fun i => (i.zero, i.size, i.bytes)) = some (some (.slice none 0 0), 1, 24) := by kernel_rfl
-- the values' own types
/-! #### struct type 43 -/
structure S43 where
 f0 : ByteArray
 f1 : Int
 f2 : Int
 f3 : ByteArray
def z43 : S43 := ⟨(⟨#[]⟩ : ByteArray), (0 : Int), (0 : Int), (⟨#[]⟩ : ByteArray)⟩
def k43 : Kd S43 := Kd.iso (Kd.pair Kd.string (Kd.pair (Kd.int .u16) (Kd.pair (Kd.int .u32) Kd.string))) (fun x : S43 => (x.f0, x.f1, x.f2, x.f3))
theorem k43_open {w : World} {x : S43} {cs : List Value} (h : k43.K w x cs) : cs = [.string x.f0, .int .u16 x.f1, .int .u32 x.f2, .string x.f3] := by
 obtain ⟨_, _, rfl, rfl, ⟨_, _, rfl, rfl, ⟨_, _, rfl, rfl, rfl⟩⟩⟩ := h
 exact rfl
theorem k43_openM {w : World} {base : Nat} {ok : Nat → Prop} {x : S43} {cs : List Value} (h : k43.M w base ok x cs) : cs = [.string x.f0, .int .u16 x.f1, .int .u32 x.f2, .string x.f3] := by
 obtain ⟨_, _, rfl, rfl, ⟨_, _, rfl, rfl, ⟨_, _, rfl, rfl, rfl⟩⟩⟩ := h
 exact rfl
theorem k43_mk (w : World) (x : S43)  : k43.K w x [.string x.f0, .int .u16 x.f1, .int .u32 x.f2, .string x.f3] := ⟨[.string x.f0], [.int .u16 x.f1, .int .u32 x.f2, .string x.f3], rfl, rfl, ⟨[.int .u16 x.f1], [.int .u32 x.f2, .string x.f3], rfl, rfl, ⟨[.int .u32 x.f2], [.string x.f3], rfl, rfl, rfl⟩⟩⟩
theorem k43_mkM (w : World) (base : Nat) (ok : Nat → Prop) (x : S43)  : k43.M w base ok x [.string x.f0, .int .u16 x.f1, .int .u32 x.f2, .string x.f3] := ⟨[.string x.f0], [.int .u16 x.f1, .int .u32 x.f2, .string x.f3], rfl, rfl, ⟨[.int .u16 x.f1], [.int .u32 x.f2, .string x.f3], rfl, rfl, ⟨[.int .u32 x.f2], [.string x.f3], rfl, rfl, rfl⟩⟩⟩
theorem k43_mkF (W : World) (ok : Nat → Prop) (x : S43) : Kd.FK k43 W ok x [.string x.f0, .int .u16 x.f1, .int .u32 x.f2, .string x.f3] := fun W2 _ => k43_mk W2 x
def rd_T43 (xs : List S43) (i : Int) : S43 := xs.getD i.toNat z43
theorem at_T43 {w : World} {A : Option Addr} {n : Nat} {xs : List S43} (h : Kd.C k43 w A n xs) (i : Int) (h0 : 0 ≤ i) (h1 : i < n) : ∃ ad , A = some ad ∧ w.cell? (ad.add (i.toNat * 4)) = some (.string (rd_T43 xs i).f0) ∧ w.cell? ⟨(ad.add (i.toNat * 4)).block, (ad.add (i.toNat * 4)).off + 1, none⟩ = some (.int .u16 (rd_T43 xs i).f1) ∧ w.cell? ⟨(ad.add (i.toNat * 4)).block, (ad.add (i.toNat * 4)).off + 2, none⟩ = some (.int .u32 (rd_T43 xs i).f2) ∧ w.cell? ⟨(ad.add (i.toNat * 4)).block, (ad.add (i.toNat * 4)).off + 3, none⟩ = some (.string (rd_T43 xs i).f3) := by
 obtain ⟨ad, c, e, _, hK, hc0⟩ := Kd.C_get h z43 i h0 h1
 have hc : ∀ j u, c[j]? = some u → w.cell? (ad.add (i.toNat * 4 + j)) = some u := hc0
 obtain rfl := k43_open hK
 exact ⟨ad, e, hc 0 _ rfl, by rw [← add_field _ _ 1 (by omega)]; exact hc 1 _ rfl, by rw [← add_field _ _ 2 (by omega)]; exact hc 2 _ rfl, by rw [← add_field _ _ 3 (by omega)]; exact hc 3 _ rfl⟩

def rd_L5 (xs : List (List Int)) (i : Int) : (List Int) := xs.getD i.toNat ([] : List Int)
theorem at_L5 {w : World} {A : Option Addr} {n : Nat} {xs : List (List Int)} (h : Kd.C (Kd.slice 5 (Kd.int .u8)) w A n xs) (i : Int) (h0 : 0 ≤ i) (h1 : i < n) : ∃ ad A0 c0, A = some ad ∧ w.cell? (ad.add i.toNat) = some (.slice A0 (rd_L5 xs i).length c0) ∧ (rd_L5 xs i).length ≤ c0 ∧ (Kd.int .u8).C w A0 (rd_L5 xs i).length (rd_L5 xs i) := by
 obtain ⟨ad, c, e, _, hK, hc0⟩ := Kd.C_get h ([] : List Int) i h0 h1
 have hc : ∀ j u, c[j]? = some u → w.cell? (ad.add (i.toNat * 1 + j)) = some u := hc0
 obtain ⟨A0, c0, rfl, l0, g0⟩ := hK
 exact ⟨ad, A0, c0, e, by have hq := hc 0 _ rfl; rwa [Nat.mul_one, Nat.add_zero] at hq, l0, g0⟩

/-! #### struct type 86 -/
structure S86 where
 f0 : (List Int)
 f1 : Int
 f2 : Int
 f3 : (List Int)
 f4 : ByteArray
def z86 : S86 := ⟨([] : List Int), (0 : Int), (0 : Int), ([] : List Int), (⟨#[]⟩ : ByteArray)⟩
def k86 : Kd S86 := Kd.iso (Kd.pair (Kd.slice 5 (Kd.int .u8)) (Kd.pair (Kd.int .u8) (Kd.pair (Kd.int .u32) (Kd.pair (Kd.slice 5 (Kd.int .u8)) Kd.string)))) (fun x : S86 => (x.f0, x.f1, x.f2, x.f3, x.f4))
theorem k86_open {w : World} {x : S86} {cs : List Value} (h : k86.K w x cs) : ∃ A0 c0 A3 c3, cs = [.slice A0 x.f0.length c0, .int .u8 x.f1, .int .u32 x.f2, .slice A3 x.f3.length c3, .string x.f4] ∧ x.f0.length ≤ c0 ∧ (Kd.int .u8).C w A0 x.f0.length x.f0 ∧ x.f3.length ≤ c3 ∧ (Kd.int .u8).C w A3 x.f3.length x.f3 := by
 obtain ⟨_, _, rfl, ⟨A0, c0, rfl, l0, g0⟩, ⟨_, _, rfl, rfl, ⟨_, _, rfl, rfl, ⟨_, _, rfl, ⟨A3, c3, rfl, l3, g3⟩, rfl⟩⟩⟩⟩ := h
 exact ⟨A0, c0, A3, c3, rfl, l0, g0, l3, g3⟩
theorem k86_openM {w : World} {base : Nat} {ok : Nat → Prop} {x : S86} {cs : List Value} (h : k86.M w base ok x cs) : ∃ v0 v3, cs = [v0, .int .u8 x.f1, .int .u32 x.f2, v3, .string x.f4] ∧ (Kd.int .u8).R 5 w base ok v0 x.f0 ∧ (Kd.int .u8).R 5 w base ok v3 x.f3 := by
 obtain ⟨_, _, rfl, ⟨v0, rfl, g0⟩, ⟨_, _, rfl, rfl, ⟨_, _, rfl, rfl, ⟨_, _, rfl, ⟨v3, rfl, g3⟩, rfl⟩⟩⟩⟩ := h
 exact ⟨v0, v3, rfl, g0, g3⟩
theorem k86_mk (w : World) (x : S86) {A0 : Option Addr} {c0 : Nat} (l0 : x.f0.length ≤ c0) (g0 : (Kd.int .u8).C w A0 x.f0.length x.f0) {A3 : Option Addr} {c3 : Nat} (l3 : x.f3.length ≤ c3) (g3 : (Kd.int .u8).C w A3 x.f3.length x.f3) : k86.K w x [.slice A0 x.f0.length c0, .int .u8 x.f1, .int .u32 x.f2, .slice A3 x.f3.length c3, .string x.f4] := ⟨[.slice A0 x.f0.length c0], [.int .u8 x.f1, .int .u32 x.f2, .slice A3 x.f3.length c3, .string x.f4], rfl, ⟨A0, c0, rfl, l0, g0⟩, ⟨[.int .u8 x.f1], [.int .u32 x.f2, .slice A3 x.f3.length c3, .string x.f4], rfl, rfl, ⟨[.int .u32 x.f2], [.slice A3 x.f3.length c3, .string x.f4], rfl, rfl, ⟨[.slice A3 x.f3.length c3], [.string x.f4], rfl, ⟨A3, c3, rfl, l3, g3⟩, rfl⟩⟩⟩⟩
theorem k86_mkM (w : World) (base : Nat) (ok : Nat → Prop) (x : S86) {v0 : Value} (g0 : (Kd.int .u8).R 5 w base ok v0 x.f0) {v3 : Value} (g3 : (Kd.int .u8).R 5 w base ok v3 x.f3) : k86.M w base ok x [v0, .int .u8 x.f1, .int .u32 x.f2, v3, .string x.f4] := ⟨[v0], [.int .u8 x.f1, .int .u32 x.f2, v3, .string x.f4], rfl, ⟨v0, rfl, g0⟩, ⟨[.int .u8 x.f1], [.int .u32 x.f2, v3, .string x.f4], rfl, rfl, ⟨[.int .u32 x.f2], [v3, .string x.f4], rfl, rfl, ⟨[v3], [.string x.f4], rfl, ⟨v3, rfl, g3⟩, rfl⟩⟩⟩⟩
theorem k86_openF {W : World} {ok : Nat → Prop} {x : S86} {cs : List Value} (h : Kd.FK k86 W ok x cs) : ∃ A0 c0 A3 c3, cs = [.slice A0 x.f0.length c0, .int .u8 x.f1, .int .u32 x.f2, .slice A3 x.f3.length c3, .string x.f4] ∧ x.f0.length ≤ c0 ∧ Kd.F (Kd.int .u8) W ok A0 x.f0.length x.f0 ∧ x.f3.length ≤ c3 ∧ Kd.F (Kd.int .u8) W ok A3 x.f3.length x.f3 := by
 obtain ⟨A0, c0, A3, c3, rfl, l0, _, l3, _⟩ := k86_open (Kd.FK_now h)
 exact ⟨A0, c0, A3, c3, rfl, l0, (fun W' hW => by obtain ⟨A0_, c0_, A3_, c3_, he, l0_, g0_, l3_, g3_⟩ := k86_open (h W' hW); injection (Option.some.inj (show some (Value.slice A0 x.f0.length c0) = some (Value.slice A0_ x.f0.length c0_) from congrArg (fun l => l[0]?) he)) with ha_ _ _; rw [ha_]; exact g0_), l3, (fun W' hW => by obtain ⟨A0_, c0_, A3_, c3_, he, l0_, g0_, l3_, g3_⟩ := k86_open (h W' hW); injection (Option.some.inj (show some (Value.slice A3 x.f3.length c3) = some (Value.slice A3_ x.f3.length c3_) from congrArg (fun l => l[3]?) he)) with ha_ _ _; rw [ha_]; exact g3_)⟩
theorem k86_mkF (W : World) (ok : Nat → Prop) (x : S86) {A0 : Option Addr} {c0 : Nat} (l0 : x.f0.length ≤ c0) (g0 : Kd.F (Kd.int .u8) W ok A0 x.f0.length x.f0) {A3 : Option Addr} {c3 : Nat} (l3 : x.f3.length ≤ c3) (g3 : Kd.F (Kd.int .u8) W ok A3 x.f3.length x.f3) : Kd.FK k86 W ok x [.slice A0 x.f0.length c0, .int .u8 x.f1, .int .u32 x.f2, .slice A3 x.f3.length c3, .string x.f4] := fun W2 hW => k86_mk W2 x l0 (g0 W2 hW) l3 (g3 W2 hW)
def rd_T86 (xs : List S86) (i : Int) : S86 := xs.getD i.toNat z86
theorem at_T86 {w : World} {A : Option Addr} {n : Nat} {xs : List S86} (h : Kd.C k86 w A n xs) (i : Int) (h0 : 0 ≤ i) (h1 : i < n) : ∃ ad A0 c0 A3 c3, A = some ad ∧ w.cell? (ad.add (i.toNat * 5)) = some (.slice A0 (rd_T86 xs i).f0.length c0) ∧ w.cell? ⟨(ad.add (i.toNat * 5)).block, (ad.add (i.toNat * 5)).off + 1, none⟩ = some (.int .u8 (rd_T86 xs i).f1) ∧ w.cell? ⟨(ad.add (i.toNat * 5)).block, (ad.add (i.toNat * 5)).off + 2, none⟩ = some (.int .u32 (rd_T86 xs i).f2) ∧ w.cell? ⟨(ad.add (i.toNat * 5)).block, (ad.add (i.toNat * 5)).off + 3, none⟩ = some (.slice A3 (rd_T86 xs i).f3.length c3) ∧ w.cell? ⟨(ad.add (i.toNat * 5)).block, (ad.add (i.toNat * 5)).off + 4, none⟩ = some (.string (rd_T86 xs i).f4) ∧ (rd_T86 xs i).f0.length ≤ c0 ∧ (Kd.int .u8).C w A0 (rd_T86 xs i).f0.length (rd_T86 xs i).f0 ∧ (rd_T86 xs i).f3.length ≤ c3 ∧ (Kd.int .u8).C w A3 (rd_T86 xs i).f3.length (rd_T86 xs i).f3 := by
 obtain ⟨ad, c, e, _, hK, hc0⟩ := Kd.C_get h z86 i h0 h1
 have hc : ∀ j u, c[j]? = some u → w.cell? (ad.add (i.toNat * 5 + j)) = some u := hc0
 obtain ⟨A0, c0, A3, c3, rfl, l0, g0, l3, g3⟩ := k86_open hK
 exact ⟨ad, A0, c0, A3, c3, e, hc 0 _ rfl, by rw [← add_field _ _ 1 (by omega)]; exact hc 1 _ rfl, by rw [← add_field _ _ 2 (by omega)]; exact hc 2 _ rfl, by rw [← add_field _ _ 3 (by omega)]; exact hc 3 _ rfl, by rw [← add_field _ _ 4 (by omega)]; exact hc 4 _ rfl, l0, g0, l3, g3⟩

def rd_L7 (xs : List (List ByteArray)) (i : Int) : (List ByteArray) := xs.getD i.toNat ([] : List ByteArray)
theorem at_L7 {w : World} {A : Option Addr} {n : Nat} {xs : List (List ByteArray)} (h : Kd.C (Kd.slice 9 Kd.string) w A n xs) (i : Int) (h0 : 0 ≤ i) (h1 : i < n) : ∃ ad A0 c0, A = some ad ∧ w.cell? (ad.add i.toNat) = some (.slice A0 (rd_L7 xs i).length c0) ∧ (rd_L7 xs i).length ≤ c0 ∧ Kd.string.C w A0 (rd_L7 xs i).length (rd_L7 xs i) := by
 obtain ⟨ad, c, e, _, hK, hc0⟩ := Kd.C_get h ([] : List ByteArray) i h0 h1
 have hc : ∀ j u, c[j]? = some u → w.cell? (ad.add (i.toNat * 1 + j)) = some u := hc0
 obtain ⟨A0, c0, rfl, l0, g0⟩ := hK
 exact ⟨ad, A0, c0, e, by have hq := hc 0 _ rfl; rwa [Nat.mul_one, Nat.add_zero] at hq, l0, g0⟩

end Go.Proofs.Ytdkjlbbbdjkhbaa.PAll

/- A struct stored whole into a variable. -/
namespace Go.Proofs.Ytdkjlbbbdjkhbaa.Hand
open Go.RowKit Go.Proofs.YtdkjlbbbdjkhbaaW.PrintWords Go.Proofs.YtdkjlbbbdjkhbaaW.PrintLast Go.Proofs.Ytdkjlbbbdjkhbaa.PAll

theorem setCells_all {g : Nat} {t : TypeId} : ∀ (vs pre cs : List Value) (W : World), cs.length = vs.length → W.heap[g]? = some (.cells (pre ++ cs).toArray t (0, 0)) →
    (W.setCells g pre.length vs).heap[g]? = some (.cells (pre ++ vs).toArray t (0, 0))
  | [], pre, cs, W, hl, h => by
    obtain rfl : cs = [] := List.eq_nil_of_length_eq_zero hl
    exact h
  | v :: r, pre, [], W, hl, h => by simp at hl
  | v :: r, pre, c :: cs, W, hl, h => by
    have h1 : (W.setCell ⟨g, pre.length, none⟩ v).heap[g]? = some (.cells ((pre ++ [v]) ++ cs).toArray t (0, 0)) := blk_put h pre.length v (by simp)
    have := setCells_all r (pre ++ [v]) cs _ (by simpa using hl) h1
    rw [World.setCells]
    rw [List.length_append, List.length_singleton] at this
    rw [this]
    simp
theorem setCells_keep {g : Nat} : ∀ (vs : List Value) (o : Nat) (W0 W : World), KeepBut W0 W g none → KeepBut W0 (W.setCells g o vs) g none
  | [], _, _, _, h => h
  | v :: r, o, W0, W, h => setCells_keep r (o + 1) W0 _ (h.set_ o v)
theorem setCells_below {g : Nat} {w0 : World} (hg : w0.heap.size ≤ g) : ∀ (vs : List Value) (o : Nat) (W : World), Below w0.heap.size w0 W → Below w0.heap.size w0 (W.setCells g o vs)
  | [], _, _, h => h
  | v :: r, o, W, h => setCells_below hg r (o + 1) _ (below_set h hg)
theorem wpList_store_all {P : Program} {W : World} {ops : Array Oper} {rest : List Oper} {o : Oper} {a : Act} {Q : Exit → Act → World → Prop} {g : Nat} {t : TypeId} {cs vs : List Value}
    (hg : o.guard = none) (p x : Operand) (hop : o.op = .store t p x) (hp : a.eval p = .pointer (some ⟨g, 0, none⟩)) (hx : a.eval x = .agg vs.toArray)
    (h : W.heap[g]? = some (.cells cs.toArray t (0, 0))) (hl : cs.length = vs.length) (hi : (P.info? t).map (·.size) = some vs.length) (h1 : vs.all (·.oneCell') = true)
    (hK : ∀ W' : World, W'.heap[g]? = some (.cells vs.toArray t (0, 0)) → KeepBut W W' g none → (∀ w0 : World, Below w0.heap.size w0 W → w0.heap.size ≤ g → Below w0.heap.size w0 W') →
      wpList P ops Q rest (a.put o.dst undef) W') : wpList P ops Q (o :: rest) a W := by
  have ht : W.there g 0 vs.toArray.size := fun i hi => ⟨by
    rw [show (⟨g, 0 + i, none⟩ : Addr) = ⟨g, i, none⟩ by rw [Nat.zero_add], blk_cell h i]
    have : i < cs.length := by rw [hl]; simpa using hi
    simp [this], by
    rw [show (⟨g, 0 + i, none⟩ : Addr) = ⟨g, i, none⟩ by rw [Nat.zero_add]]
    exact blk_frozen h i⟩
  refine wpList_store_mid hg t p x hop g 0 _ hp hx ht (by simpa using hi) (by simpa using h1) ?_
  exact hK _ (setCells_all vs [] cs W hl h) (setCells_keep _ _ _ _ (KeepBut.refl _ _ _)) (fun w0 hb hle => setCells_below hle _ _ _ hb)
end Go.Proofs.Ytdkjlbbbdjkhbaa.Hand

namespace Go.Proofs.Ytdkjlbbbdjkhbaa.PAll
open Go.RowKit Go.Proofs.YtdkjlbbbdjkhbaaW.PrintWords Go.Proofs.YtdkjlbbbdjkhbaaW.PrintLast Go.Proofs.YtdkjlbbbdjkhbaaW.PrintMore
attribute [local go_sem] max2_int min2_int max_two min_two max_three min_three max_four min_four   -- for this text's walks alone
open Go.Proofs.Ytdkjlbbbdjkhbaa.Hand

/-! ### reply_Base: function 26 -/
def reply_Base.f (a0_0 : Int) (a0_1 : Bool) (a0_2 : Int) (a0_3 : Bool) (a0_4 : Bool) (a0_5 : Bool) (a0_6 : Bool) (a0_7 : Int) (a0_8 : ByteArray) (a0_9 : Int) (l0_10 : List (S43)) (l0_11 : List (S43)) (l0_12 : List (S43)) (a0_13 : Int) (a1 : Int) : Option (Int × Bool × Int × Bool × Bool × Bool × Bool × Int × ByteArray × Int × (List (S43)) × (List (S43)) × (List (S43)) × Int) := some (a0_0, true, a0_2, false, false, a0_5, true, Go.bits .and .i64 a1 15, a0_8, a0_9, ([] : List (S43)), ([] : List (S43)), ([] : List (S43)), mn a0_13 4096)
set_option maxHeartbeats 8000000 in
set_option maxRecDepth 100000 in
theorem reply_Base.calls (a0_0 : Int) (a0_1 : Bool) (a0_2 : Int) (a0_3 : Bool) (a0_4 : Bool) (a0_5 : Bool) (a0_6 : Bool) (a0_7 : Int) (a0_8 : ByteArray) (a0_9 : Int) (A0_10 : Option Addr) (c0_10 : Nat) (l0_10 : List (S43)) (A0_11 : Option Addr) (c0_11 : Nat) (l0_11 : List (S43)) (A0_12 : Option Addr) (c0_12 : Nat) (l0_12 : List (S43)) (a0_13 : Int) (a1 : Int) (r1 : Int) (r2 : Bool) (r3 : Int) (r4 : Bool) (r5 : Bool) (r6 : Bool) (r7 : Bool) (r8 : Int) (r9 : ByteArray) (r10 : Int) (r11 : List (S43)) (r12 : List (S43)) (r13 : List (S43)) (r14 : Int) (w : World) (hr0_10 : Kd.C k43 w A0_10 l0_10.length l0_10) (hc0_10 : l0_10.length ≤ c0_10) (hr0_11 : Kd.C k43 w A0_11 l0_11.length l0_11) (hc0_11 : l0_11.length ≤ c0_11) (hr0_12 : Kd.C k43 w A0_12 l0_12.length l0_12) (hc0_12 : l0_12.length ≤ c0_12) (h : reply_Base.f a0_0 a0_1 a0_2 a0_3 a0_4 a0_5 a0_6 a0_7 a0_8 a0_9 l0_10 l0_11 l0_12 a0_13 a1 = some (r1, r2, r3, r4, r5, r6, r7, r8, r9, r10, r11, r12, r13, r14)) :
  Calls Try.prog 26 #[.agg #[.int .u16 a0_0, .bool a0_1, .int .i64 a0_2, .bool a0_3, .bool a0_4, .bool a0_5, .bool a0_6, .int .i64 a0_7, .string a0_8, .int .u16 a0_9, .slice A0_10 l0_10.length c0_10, .slice A0_11 l0_11.length c0_11, .slice A0_12 l0_12.length c0_12, .int .i64 a0_13], .int .i64 a1] w fun e w' => ∃ v10_ v11_ v12_ : Value, e = .returned (.agg #[.int .u16 r1, .bool r2, .int .i64 r3, .bool r4, .bool r5, .bool r6, .bool r7, .int .i64 r8, .string r9, .int .u16 r10, v10_, v11_, v12_, .int .i64 r14]) ∧ Kd.R k43 43 w' w.heap.size (fun k_ => some k_ ≠ (v11_ : Value).ownBlock ∧ some k_ ≠ (v12_ : Value).ownBlock) v10_ r11 ∧ Kd.R k43 43 w' w.heap.size (fun k_ => some k_ ≠ (v10_ : Value).ownBlock ∧ some k_ ≠ (v12_ : Value).ownBlock) v11_ r12 ∧ Kd.R k43 43 w' w.heap.size (fun k_ => some k_ ≠ (v10_ : Value).ownBlock ∧ some k_ ≠ (v11_ : Value).ownBlock) v12_ r13 ∧ Below w.heap.size w w' := by
 have hu58 := Try.underlying58
 have hu54 := Try.underlying54
 have hu56 := Try.underlying56
 have HR0_10 := Aside0.mk hr0_10
 have HC0_10 := Aside0.mk hc0_10
 clear hr0_10 hc0_10
 have HR0_11 := Aside0.mk hr0_11
 have HC0_11 := Aside0.mk hc0_11
 clear hr0_11 hc0_11
 have HR0_12 := Aside0.mk hr0_12
 have HC0_12 := Aside0.mk hc0_12
 clear hr0_12 hc0_12
 have HB := Aside0.mk (Below.refl w.heap.size w)
 have H : (some (a0_0, true, a0_2, false, false, a0_5, true, Go.bits .and .i64 a1 15, a0_8, a0_9, ([] : List (S43)), ([] : List (S43)), ([] : List (S43)), mn a0_13 4096)) = some (r1, r2, r3, r4, r5, r6, r7, r8, r9, r10, r11, r12, r13, r14) := h
 clear h
 obtain ⟨ji3, hji3⟩ : ∃ j_ : Int, (mn a0_13 4096) = j_ := ⟨_, rfl⟩
 replace H : (some (a0_0, true, a0_2, false, false, a0_5, true, Go.bits .and .i64 a1 15, a0_8, a0_9, ([] : List (S43)), ([] : List (S43)), ([] : List (S43)), ji3)) = some (r1, r2, r3, r4, r5, r6, r7, r8, r9, r10, r11, r12, r13, r14) := by first | (rw [hji3] at H; exact H) | (simp only [hji3] at H ⊢; exact H)
 (try (have hji3h : ji3 ≤ 4096 := by (rw [← hji3]; unfold mn; (repeat' split) <;> omega)))
 (try (have hji3g : ji3 ≤ 64 := by omega))
 have hji3_ : (if 4096 < a0_13 then 4096 else a0_13) = ji3 := hji3
 simp only [Option.some.injEq, Prod.mk.injEq] at H
 obtain ⟨rfl, rfl, rfl, rfl, rfl, rfl, rfl, rfl, rfl, rfl, rfl, rfl, rfl, rfl⟩ := H
 go_enter Try.func26, Try.ntmps26
 go_wp2_with (first | ((with_reducible refine gate_dst (N := 2) rfl ?_); refine box_event ?hg (N := 2) ?hd (cs := #[.int .u16 a0_0, .bool a0_1, .int .i64 a0_2, .bool a0_3, .bool a0_4, .bool a0_5, .bool a0_6, .int .i64 a0_7, .string a0_8, .int .u16 a0_9, .slice A0_10 l0_10.length c0_10, .slice A0_11 l0_11.length c0_11, .slice A0_12 l0_12.length c0_12, .int .i64 a0_13]) (t := 58) ?hr ?_; (case hd => rfl); (case hg => rfl); (case hr => first | (go_simp; done) | (go_simp; rfl)); intro gb115 hg w4 hbox hb; have n0_ := Aside0.mk (below_step (by repeat (first | (with_reducible first | exact HB.out | apply below_alloc | apply pw_below_drewN | apply below_drew1) | exact HB.out)) hb); have n1_ := Aside0.mk (hbox); have n2_ := Aside0.mk ((by rw [hg]; exact (below_size (by repeat (first | (with_reducible first | exact HB.out | apply below_alloc | apply pw_below_drewN | apply below_drew1) | exact HB.out))) : w.heap.size ≤ gb115)); have n3_ := Aside0.mk ((by rw [hg]; exact (below_size (by repeat (first | (with_reducible first | exact HB.out | apply below_alloc | apply pw_below_drewN | apply below_drew1) | exact HB.out))) : w.heap.size ≤ gb115)); clear HB; have HB := n0_; have BK115 := n1_; have GW115 := n2_; have GE115 := n3_; clear n0_ n1_ n2_ n3_; clear hb hbox hg) | ((with_reducible refine gate_dst (N := 4) rfl ?_); refine box_event ?hg (N := 4) ?hd (cs := #[.int .u16 0, .bool false, .int .i64 0, .bool false, .bool false, .bool false, .bool false, .int .i64 0, .string (⟨#[]⟩ : ByteArray), .int .u16 0, .slice none 0 0, .slice none 0 0, .slice none 0 0, .int .i64 0]) (t := 58) ?hr ?_; (case hd => rfl); (case hg => rfl); (case hr => first | (go_simp; done) | (go_simp; rfl)); intro gb116 hg w5 hbox hb; have n0_ := Aside0.mk (blk_below (g := gb115) (o := .cells #[.int .u16 a0_0, .bool a0_1, .int .i64 a0_2, .bool a0_3, .bool a0_4, .bool a0_5, .bool a0_6, .int .i64 a0_7, .string a0_8, .int .u16 a0_9, .slice A0_10 l0_10.length c0_10, .slice A0_11 l0_11.length c0_11, .slice A0_12 l0_12.length c0_12, .int .i64 a0_13] 58 (0, 0)) (by (with_reducible repeat (first | refine blk_drewN ?_ _ | refine blk_drew ?_ | refine blk_alloc ?_ _)); exact BK115.out) hb); have n1_ := Aside0.mk (below_step (by repeat (first | (with_reducible first | exact HB.out | apply below_alloc | apply pw_below_drewN | apply below_drew1 | refine below_set ?_ GE115.out) | exact HB.out)) hb); have n2_ := Aside0.mk (hbox); have n3_ := Aside0.mk ((by rw [hg]; exact (below_size (by repeat (first | (with_reducible first | exact HB.out | apply below_alloc | apply pw_below_drewN | apply below_drew1 | refine below_set ?_ GE115.out) | exact HB.out))) : w.heap.size ≤ gb116)); have n4_ := Aside0.mk ((by rw [hg]; exact (below_size (by repeat (first | (with_reducible first | exact HB.out | apply below_alloc | apply pw_below_drewN | apply below_drew1 | refine below_set ?_ GE115.out) | exact HB.out))) : w.heap.size ≤ gb116)); have n5_ := Aside0.mk ((by rw [hg]; exact Nat.ne_of_lt (blk_lt (g := gb115) (o := .cells #[.int .u16 a0_0, .bool a0_1, .int .i64 a0_2, .bool a0_3, .bool a0_4, .bool a0_5, .bool a0_6, .int .i64 a0_7, .string a0_8, .int .u16 a0_9, .slice A0_10 l0_10.length c0_10, .slice A0_11 l0_11.length c0_11, .slice A0_12 l0_12.length c0_12, .int .i64 a0_13] 58 (0, 0)) (by (with_reducible repeat (first | refine blk_drewN ?_ _ | refine blk_drew ?_ | refine blk_alloc ?_ _)); exact BK115.out)) : gb115 ≠ gb116)); have n6_ := Aside0.mk ((by rw [hg]; exact Nat.ne_of_gt (blk_lt (g := gb115) (o := .cells #[.int .u16 a0_0, .bool a0_1, .int .i64 a0_2, .bool a0_3, .bool a0_4, .bool a0_5, .bool a0_6, .int .i64 a0_7, .string a0_8, .int .u16 a0_9, .slice A0_10 l0_10.length c0_10, .slice A0_11 l0_11.length c0_11, .slice A0_12 l0_12.length c0_12, .int .i64 a0_13] 58 (0, 0)) (by (with_reducible repeat (first | refine blk_drewN ?_ _ | refine blk_drew ?_ | refine blk_alloc ?_ _)); exact BK115.out)) : gb116 ≠ gb115)); clear BK115; clear HB; have BK115 := n0_; have HB := n1_; have BK116 := n2_; have GW116 := n3_; have GE116 := n4_; have NB115_116 := n5_; have NB116_115 := n6_; clear n0_ n1_ n2_ n3_ n4_ n5_ n6_; clear hb hbox hg; have hnb6 := NB115_116.out; have hnc6 := NB116_115.out; have hcz7_0 : w5.cell? ⟨gb115, 0, none⟩ = some (.int .u16 a0_0) := (blk_cell BK115.out 0).trans rfl; have hcz7_1 : w5.cell? ⟨gb115, 1, none⟩ = some (.bool a0_1) := (blk_cell BK115.out 1).trans rfl; have hcz7_2 : w5.cell? ⟨gb115, 2, none⟩ = some (.int .i64 a0_2) := (blk_cell BK115.out 2).trans rfl; have hcz7_3 : w5.cell? ⟨gb115, 3, none⟩ = some (.bool a0_3) := (blk_cell BK115.out 3).trans rfl; have hcz7_4 : w5.cell? ⟨gb115, 4, none⟩ = some (.bool a0_4) := (blk_cell BK115.out 4).trans rfl; have hcz7_5 : w5.cell? ⟨gb115, 5, none⟩ = some (.bool a0_5) := (blk_cell BK115.out 5).trans rfl; have hcz7_6 : w5.cell? ⟨gb115, 6, none⟩ = some (.bool a0_6) := (blk_cell BK115.out 6).trans rfl; have hcz7_7 : w5.cell? ⟨gb115, 7, none⟩ = some (.int .i64 a0_7) := (blk_cell BK115.out 7).trans rfl; have hcz7_8 : w5.cell? ⟨gb115, 8, none⟩ = some (.string a0_8) := (blk_cell BK115.out 8).trans rfl; have hcz7_9 : w5.cell? ⟨gb115, 9, none⟩ = some (.int .u16 a0_9) := (blk_cell BK115.out 9).trans rfl; have hcz7_10 : w5.cell? ⟨gb115, 10, none⟩ = some (.slice A0_10 l0_10.length c0_10) := (blk_cell BK115.out 10).trans rfl; have hcz7_11 : w5.cell? ⟨gb115, 11, none⟩ = some (.slice A0_11 l0_11.length c0_11) := (blk_cell BK115.out 11).trans rfl; have hcz7_12 : w5.cell? ⟨gb115, 12, none⟩ = some (.slice A0_12 l0_12.length c0_12) := (blk_cell BK115.out 12).trans rfl; have hcz7_13 : w5.cell? ⟨gb115, 13, none⟩ = some (.int .i64 a0_13) := (blk_cell BK115.out 13).trans rfl; have hfz7_0 := blk_frozen BK115.out 0; have hfz7_1 := blk_frozen BK115.out 1; have hfz7_2 := blk_frozen BK115.out 2; have hfz7_3 := blk_frozen BK115.out 3; have hfz7_4 := blk_frozen BK115.out 4; have hfz7_5 := blk_frozen BK115.out 5; have hfz7_6 := blk_frozen BK115.out 6; have hfz7_7 := blk_frozen BK115.out 7; have hfz7_8 := blk_frozen BK115.out 8; have hfz7_9 := blk_frozen BK115.out 9; have hfz7_10 := blk_frozen BK115.out 10; have hfz7_11 := blk_frozen BK115.out 11; have hfz7_12 := blk_frozen BK115.out 12; have hfz7_13 := blk_frozen BK115.out 13) | ((with_reducible refine gate_dst (N := 5) rfl ?_); refine box_event ?hg (N := 5) ?hd (cs := #[.int .u16 0, .bool false, .int .i64 0, .bool false, .bool false, .bool false, .bool false, .int .i64 0]) (t := 54) ?hr ?_; (case hd => rfl); (case hg => rfl); (case hr => first | (go_simp; done) | (go_simp; rfl)); intro gb117 hg w8 hbox hb; have n0_ := Aside0.mk (blk_below (g := gb115) (o := .cells #[.int .u16 a0_0, .bool a0_1, .int .i64 a0_2, .bool a0_3, .bool a0_4, .bool a0_5, .bool a0_6, .int .i64 a0_7, .string a0_8, .int .u16 a0_9, .slice A0_10 l0_10.length c0_10, .slice A0_11 l0_11.length c0_11, .slice A0_12 l0_12.length c0_12, .int .i64 a0_13] 58 (0, 0)) (by (with_reducible repeat (first | refine blk_drewN ?_ _ | refine blk_drew ?_ | refine blk_alloc ?_ _)); exact BK115.out) hb); have n1_ := Aside0.mk (blk_below (g := gb116) (o := .cells #[.int .u16 0, .bool false, .int .i64 0, .bool false, .bool false, .bool false, .bool false, .int .i64 0, .string (⟨#[]⟩ : ByteArray), .int .u16 0, .slice none 0 0, .slice none 0 0, .slice none 0 0, .int .i64 0] 58 (0, 0)) (by (with_reducible repeat (first | refine blk_drewN ?_ _ | refine blk_drew ?_ | refine blk_alloc ?_ _)); exact BK116.out) hb); have n2_ := Aside0.mk (below_step (by repeat (first | (with_reducible first | exact HB.out | apply below_alloc | apply pw_below_drewN | apply below_drew1 | refine below_set ?_ GE115.out | refine below_set ?_ GE116.out) | exact HB.out)) hb); have n3_ := Aside0.mk (hbox); have n4_ := Aside0.mk ((by rw [hg]; exact (below_size (by repeat (first | (with_reducible first | exact HB.out | apply below_alloc | apply pw_below_drewN | apply below_drew1 | refine below_set ?_ GE115.out | refine below_set ?_ GE116.out) | exact HB.out))) : w.heap.size ≤ gb117)); have n5_ := Aside0.mk ((by rw [hg]; exact (below_size (by repeat (first | (with_reducible first | exact HB.out | apply below_alloc | apply pw_below_drewN | apply below_drew1 | refine below_set ?_ GE115.out | refine below_set ?_ GE116.out) | exact HB.out))) : w.heap.size ≤ gb117)); have n6_ := Aside0.mk ((by rw [hg]; exact Nat.ne_of_lt (blk_lt (g := gb115) (o := .cells #[.int .u16 a0_0, .bool a0_1, .int .i64 a0_2, .bool a0_3, .bool a0_4, .bool a0_5, .bool a0_6, .int .i64 a0_7, .string a0_8, .int .u16 a0_9, .slice A0_10 l0_10.length c0_10, .slice A0_11 l0_11.length c0_11, .slice A0_12 l0_12.length c0_12, .int .i64 a0_13] 58 (0, 0)) (by (with_reducible repeat (first | refine blk_drewN ?_ _ | refine blk_drew ?_ | refine blk_alloc ?_ _)); exact BK115.out)) : gb115 ≠ gb117)); have n7_ := Aside0.mk ((by rw [hg]; exact Nat.ne_of_gt (blk_lt (g := gb115) (o := .cells #[.int .u16 a0_0, .bool a0_1, .int .i64 a0_2, .bool a0_3, .bool a0_4, .bool a0_5, .bool a0_6, .int .i64 a0_7, .string a0_8, .int .u16 a0_9, .slice A0_10 l0_10.length c0_10, .slice A0_11 l0_11.length c0_11, .slice A0_12 l0_12.length c0_12, .int .i64 a0_13] 58 (0, 0)) (by (with_reducible repeat (first | refine blk_drewN ?_ _ | refine blk_drew ?_ | refine blk_alloc ?_ _)); exact BK115.out)) : gb117 ≠ gb115)); have n8_ := Aside0.mk ((by rw [hg]; exact Nat.ne_of_lt (blk_lt (g := gb116) (o := .cells #[.int .u16 0, .bool false, .int .i64 0, .bool false, .bool false, .bool false, .bool false, .int .i64 0, .string (⟨#[]⟩ : ByteArray), .int .u16 0, .slice none 0 0, .slice none 0 0, .slice none 0 0, .int .i64 0] 58 (0, 0)) (by (with_reducible repeat (first | refine blk_drewN ?_ _ | refine blk_drew ?_ | refine blk_alloc ?_ _)); exact BK116.out)) : gb116 ≠ gb117)); have n9_ := Aside0.mk ((by rw [hg]; exact Nat.ne_of_gt (blk_lt (g := gb116) (o := .cells #[.int .u16 0, .bool false, .int .i64 0, .bool false, .bool false, .bool false, .bool false, .int .i64 0, .string (⟨#[]⟩ : ByteArray), .int .u16 0, .slice none 0 0, .slice none 0 0, .slice none 0 0, .int .i64 0] 58 (0, 0)) (by (with_reducible repeat (first | refine blk_drewN ?_ _ | refine blk_drew ?_ | refine blk_alloc ?_ _)); exact BK116.out)) : gb117 ≠ gb116)); clear BK115; clear BK116; clear HB; have BK115 := n0_; have BK116 := n1_; have HB := n2_; have BK117 := n3_; have GW117 := n4_; have GE117 := n5_; have NB115_117 := n6_; have NB117_115 := n7_; have NB116_117 := n8_; have NB117_116 := n9_; clear n0_ n1_ n2_ n3_ n4_ n5_ n6_ n7_ n8_ n9_; clear hb hbox hg; have hnb9 := NB117_115.out; have hnc9 := NB115_117.out; have hnb10 := NB117_116.out; have hnc10 := NB116_117.out; have hcz11_0 : w8.cell? ⟨gb117, 0, none⟩ = some (.int .u16 0) := (blk_cell BK117.out 0).trans rfl; have hcz11_1 : w8.cell? ⟨gb117, 1, none⟩ = some (.bool false) := (blk_cell BK117.out 1).trans rfl; have hcz11_2 : w8.cell? ⟨gb117, 2, none⟩ = some (.int .i64 0) := (blk_cell BK117.out 2).trans rfl; have hcz11_3 : w8.cell? ⟨gb117, 3, none⟩ = some (.bool false) := (blk_cell BK117.out 3).trans rfl; have hcz11_4 : w8.cell? ⟨gb117, 4, none⟩ = some (.bool false) := (blk_cell BK117.out 4).trans rfl; have hcz11_5 : w8.cell? ⟨gb117, 5, none⟩ = some (.bool false) := (blk_cell BK117.out 5).trans rfl; have hcz11_6 : w8.cell? ⟨gb117, 6, none⟩ = some (.bool false) := (blk_cell BK117.out 6).trans rfl; have hcz11_7 : w8.cell? ⟨gb117, 7, none⟩ = some (.int .i64 0) := (blk_cell BK117.out 7).trans rfl; have hfz11_0 := blk_frozen BK117.out 0; have hfz11_1 := blk_frozen BK117.out 1; have hfz11_2 := blk_frozen BK117.out 2; have hfz11_3 := blk_frozen BK117.out 3; have hfz11_4 := blk_frozen BK117.out 4; have hfz11_5 := blk_frozen BK117.out 5; have hfz11_6 := blk_frozen BK117.out 6; have hfz11_7 := blk_frozen BK117.out 7; have hcz12_0 : w8.cell? ⟨gb115, 0, none⟩ = some (.int .u16 a0_0) := (blk_cell BK115.out 0).trans rfl; have hcz12_1 : w8.cell? ⟨gb115, 1, none⟩ = some (.bool a0_1) := (blk_cell BK115.out 1).trans rfl; have hcz12_2 : w8.cell? ⟨gb115, 2, none⟩ = some (.int .i64 a0_2) := (blk_cell BK115.out 2).trans rfl; have hcz12_3 : w8.cell? ⟨gb115, 3, none⟩ = some (.bool a0_3) := (blk_cell BK115.out 3).trans rfl; have hcz12_4 : w8.cell? ⟨gb115, 4, none⟩ = some (.bool a0_4) := (blk_cell BK115.out 4).trans rfl; have hcz12_5 : w8.cell? ⟨gb115, 5, none⟩ = some (.bool a0_5) := (blk_cell BK115.out 5).trans rfl; have hcz12_6 : w8.cell? ⟨gb115, 6, none⟩ = some (.bool a0_6) := (blk_cell BK115.out 6).trans rfl; have hcz12_7 : w8.cell? ⟨gb115, 7, none⟩ = some (.int .i64 a0_7) := (blk_cell BK115.out 7).trans rfl; have hcz12_8 : w8.cell? ⟨gb115, 8, none⟩ = some (.string a0_8) := (blk_cell BK115.out 8).trans rfl; have hcz12_9 : w8.cell? ⟨gb115, 9, none⟩ = some (.int .u16 a0_9) := (blk_cell BK115.out 9).trans rfl; have hcz12_10 : w8.cell? ⟨gb115, 10, none⟩ = some (.slice A0_10 l0_10.length c0_10) := (blk_cell BK115.out 10).trans rfl; have hcz12_11 : w8.cell? ⟨gb115, 11, none⟩ = some (.slice A0_11 l0_11.length c0_11) := (blk_cell BK115.out 11).trans rfl; have hcz12_12 : w8.cell? ⟨gb115, 12, none⟩ = some (.slice A0_12 l0_12.length c0_12) := (blk_cell BK115.out 12).trans rfl; have hcz12_13 : w8.cell? ⟨gb115, 13, none⟩ = some (.int .i64 a0_13) := (blk_cell BK115.out 13).trans rfl; have hfz12_0 := blk_frozen BK115.out 0; have hfz12_1 := blk_frozen BK115.out 1; have hfz12_2 := blk_frozen BK115.out 2; have hfz12_3 := blk_frozen BK115.out 3; have hfz12_4 := blk_frozen BK115.out 4; have hfz12_5 := blk_frozen BK115.out 5; have hfz12_6 := blk_frozen BK115.out 6; have hfz12_7 := blk_frozen BK115.out 7; have hfz12_8 := blk_frozen BK115.out 8; have hfz12_9 := blk_frozen BK115.out 9; have hfz12_10 := blk_frozen BK115.out 10; have hfz12_11 := blk_frozen BK115.out 11; have hfz12_12 := blk_frozen BK115.out 12; have hfz12_13 := blk_frozen BK115.out 13; have hcz13_0 : w8.cell? ⟨gb116, 0, none⟩ = some (.int .u16 0) := (blk_cell BK116.out 0).trans rfl; have hcz13_1 : w8.cell? ⟨gb116, 1, none⟩ = some (.bool false) := (blk_cell BK116.out 1).trans rfl; have hcz13_2 : w8.cell? ⟨gb116, 2, none⟩ = some (.int .i64 0) := (blk_cell BK116.out 2).trans rfl; have hcz13_3 : w8.cell? ⟨gb116, 3, none⟩ = some (.bool false) := (blk_cell BK116.out 3).trans rfl; have hcz13_4 : w8.cell? ⟨gb116, 4, none⟩ = some (.bool false) := (blk_cell BK116.out 4).trans rfl; have hcz13_5 : w8.cell? ⟨gb116, 5, none⟩ = some (.bool false) := (blk_cell BK116.out 5).trans rfl; have hcz13_6 : w8.cell? ⟨gb116, 6, none⟩ = some (.bool false) := (blk_cell BK116.out 6).trans rfl; have hcz13_7 : w8.cell? ⟨gb116, 7, none⟩ = some (.int .i64 0) := (blk_cell BK116.out 7).trans rfl; have hcz13_8 : w8.cell? ⟨gb116, 8, none⟩ = some (.string (⟨#[]⟩ : ByteArray)) := (blk_cell BK116.out 8).trans rfl; have hcz13_9 : w8.cell? ⟨gb116, 9, none⟩ = some (.int .u16 0) := (blk_cell BK116.out 9).trans rfl; have hcz13_10 : w8.cell? ⟨gb116, 10, none⟩ = some (.slice none 0 0) := (blk_cell BK116.out 10).trans rfl; have hcz13_11 : w8.cell? ⟨gb116, 11, none⟩ = some (.slice none 0 0) := (blk_cell BK116.out 11).trans rfl; have hcz13_12 : w8.cell? ⟨gb116, 12, none⟩ = some (.slice none 0 0) := (blk_cell BK116.out 12).trans rfl; have hcz13_13 : w8.cell? ⟨gb116, 13, none⟩ = some (.int .i64 0) := (blk_cell BK116.out 13).trans rfl; have hfz13_0 := blk_frozen BK116.out 0; have hfz13_1 := blk_frozen BK116.out 1; have hfz13_2 := blk_frozen BK116.out 2; have hfz13_3 := blk_frozen BK116.out 3; have hfz13_4 := blk_frozen BK116.out 4; have hfz13_5 := blk_frozen BK116.out 5; have hfz13_6 := blk_frozen BK116.out 6; have hfz13_7 := blk_frozen BK116.out 7; have hfz13_8 := blk_frozen BK116.out 8; have hfz13_9 := blk_frozen BK116.out 9; have hfz13_10 := blk_frozen BK116.out 10; have hfz13_11 := blk_frozen BK116.out 11; have hfz13_12 := blk_frozen BK116.out 12; have hfz13_13 := blk_frozen BK116.out 13))
 refine bodyPost_ret (results_cell_row rfl _ _ gb116 58 #[.int .u16 a0_0, .bool true, .int .i64 a0_2, .bool false, .bool false, .bool a0_5, .bool true, .int .i64 (Go.bits .and .i64 a1 15), .string a0_8, .int .u16 a0_9, .slice none 0 0, .slice none 0 0, .slice none 0 0, .int .i64 ji3] (0, 0) _ rfl (by (with_reducible repeat (first | refine blk_drewN ?_ _ | refine blk_drew ?_ | refine blk_alloc ?_ _)); refine blk_put (cs := #[.int .u16 a0_0, .bool true, .int .i64 a0_2, .bool false, .bool false, .bool a0_5, .bool true, .int .i64 (Go.bits .and .i64 a1 15), .string a0_8, .int .u16 a0_9, .slice none 0 0, .slice none 0 0, .slice none 0 0, .int .i64 0]) ?_ 13 _ rfl; (with_reducible repeat (first | refine blk_drewN ?_ _ | refine blk_drew ?_ | refine blk_alloc ?_ _)); refine blk_put (cs := #[.int .u16 a0_0, .bool true, .int .i64 a0_2, .bool false, .bool false, .bool a0_5, .bool true, .int .i64 (Go.bits .and .i64 a1 15), .string a0_8, .int .u16 a0_9, .slice none 0 0, .slice none 0 0, .slice none 0 0, .int .i64 0]) ?_ 12 _ rfl; (with_reducible repeat (first | refine blk_drewN ?_ _ | refine blk_drew ?_ | refine blk_alloc ?_ _)); refine blk_put (cs := #[.int .u16 a0_0, .bool true, .int .i64 a0_2, .bool false, .bool false, .bool a0_5, .bool true, .int .i64 (Go.bits .and .i64 a1 15), .string a0_8, .int .u16 a0_9, .slice none 0 0, .slice none 0 0, .slice none 0 0, .int .i64 0]) ?_ 11 _ rfl; (with_reducible repeat (first | refine blk_drewN ?_ _ | refine blk_drew ?_ | refine blk_alloc ?_ _)); refine blk_put (cs := #[.int .u16 a0_0, .bool true, .int .i64 a0_2, .bool false, .bool false, .bool a0_5, .bool true, .int .i64 (Go.bits .and .i64 a1 15), .string a0_8, .int .u16 a0_9, .slice none 0 0, .slice none 0 0, .slice none 0 0, .int .i64 0]) ?_ 10 _ rfl; (with_reducible repeat (first | refine blk_drewN ?_ _ | refine blk_drew ?_ | refine blk_alloc ?_ _)); refine blk_put (cs := #[.int .u16 a0_0, .bool true, .int .i64 a0_2, .bool false, .bool false, .bool a0_5, .bool true, .int .i64 (Go.bits .and .i64 a1 15), .string a0_8, .int .u16 0, .slice none 0 0, .slice none 0 0, .slice none 0 0, .int .i64 0]) ?_ 9 _ rfl; (with_reducible repeat (first | refine blk_drewN ?_ _ | refine blk_drew ?_ | refine blk_alloc ?_ _)); refine blk_put (cs := #[.int .u16 a0_0, .bool true, .int .i64 a0_2, .bool false, .bool false, .bool a0_5, .bool true, .int .i64 (Go.bits .and .i64 a1 15), .string (⟨#[]⟩ : ByteArray), .int .u16 0, .slice none 0 0, .slice none 0 0, .slice none 0 0, .int .i64 0]) ?_ 8 _ rfl; (with_reducible repeat (first | refine blk_drewN ?_ _ | refine blk_drew ?_ | refine blk_alloc ?_ _)); refine blk_put (cs := #[.int .u16 a0_0, .bool true, .int .i64 a0_2, .bool false, .bool false, .bool a0_5, .bool true, .int .i64 0, .string (⟨#[]⟩ : ByteArray), .int .u16 0, .slice none 0 0, .slice none 0 0, .slice none 0 0, .int .i64 0]) ?_ 7 _ rfl; (with_reducible repeat (first | refine blk_drewN ?_ _ | refine blk_drew ?_ | refine blk_alloc ?_ _)); refine blk_put (cs := #[.int .u16 a0_0, .bool true, .int .i64 a0_2, .bool false, .bool false, .bool a0_5, .bool false, .int .i64 0, .string (⟨#[]⟩ : ByteArray), .int .u16 0, .slice none 0 0, .slice none 0 0, .slice none 0 0, .int .i64 0]) ?_ 6 _ rfl; (with_reducible repeat (first | refine blk_drewN ?_ _ | refine blk_drew ?_ | refine blk_alloc ?_ _)); refine blk_put (cs := #[.int .u16 a0_0, .bool true, .int .i64 a0_2, .bool false, .bool false, .bool false, .bool false, .int .i64 0, .string (⟨#[]⟩ : ByteArray), .int .u16 0, .slice none 0 0, .slice none 0 0, .slice none 0 0, .int .i64 0]) ?_ 5 _ rfl; (with_reducible repeat (first | refine blk_drewN ?_ _ | refine blk_drew ?_ | refine blk_alloc ?_ _)); refine blk_put (cs := #[.int .u16 a0_0, .bool true, .int .i64 a0_2, .bool false, .bool false, .bool false, .bool false, .int .i64 0, .string (⟨#[]⟩ : ByteArray), .int .u16 0, .slice none 0 0, .slice none 0 0, .slice none 0 0, .int .i64 0]) ?_ 4 _ rfl; (with_reducible repeat (first | refine blk_drewN ?_ _ | refine blk_drew ?_ | refine blk_alloc ?_ _)); refine blk_put (cs := #[.int .u16 a0_0, .bool true, .int .i64 a0_2, .bool false, .bool false, .bool false, .bool false, .int .i64 0, .string (⟨#[]⟩ : ByteArray), .int .u16 0, .slice none 0 0, .slice none 0 0, .slice none 0 0, .int .i64 0]) ?_ 3 _ rfl; (with_reducible repeat (first | refine blk_drewN ?_ _ | refine blk_drew ?_ | refine blk_alloc ?_ _)); refine blk_put (cs := #[.int .u16 a0_0, .bool true, .int .i64 0, .bool false, .bool false, .bool false, .bool false, .int .i64 0, .string (⟨#[]⟩ : ByteArray), .int .u16 0, .slice none 0 0, .slice none 0 0, .slice none 0 0, .int .i64 0]) ?_ 2 _ rfl; (with_reducible repeat (first | refine blk_drewN ?_ _ | refine blk_drew ?_ | refine blk_alloc ?_ _)); refine blk_put (cs := #[.int .u16 a0_0, .bool false, .int .i64 0, .bool false, .bool false, .bool false, .bool false, .int .i64 0, .string (⟨#[]⟩ : ByteArray), .int .u16 0, .slice none 0 0, .slice none 0 0, .slice none 0 0, .int .i64 0]) ?_ 1 _ rfl; (with_reducible repeat (first | refine blk_drewN ?_ _ | refine blk_drew ?_ | refine blk_alloc ?_ _)); refine blk_put (cs := #[.int .u16 0, .bool false, .int .i64 0, .bool false, .bool false, .bool false, .bool false, .int .i64 0, .string (⟨#[]⟩ : ByteArray), .int .u16 0, .slice none 0 0, .slice none 0 0, .slice none 0 0, .int .i64 0]) ?_ 0 _ rfl; (with_reducible repeat (first | refine blk_drewN ?_ _ | refine blk_drew ?_ | refine blk_alloc ?_ _)); refine blk_far ?_ NB116_117.out _; (with_reducible repeat (first | refine blk_drewN ?_ _ | refine blk_drew ?_ | refine blk_alloc ?_ _)); refine blk_far ?_ NB116_117.out _; (with_reducible repeat (first | refine blk_drewN ?_ _ | refine blk_drew ?_ | refine blk_alloc ?_ _)); refine blk_far ?_ NB116_117.out _; (with_reducible repeat (first | refine blk_drewN ?_ _ | refine blk_drew ?_ | refine blk_alloc ?_ _)); refine blk_far ?_ NB116_117.out _; (with_reducible repeat (first | refine blk_drewN ?_ _ | refine blk_drew ?_ | refine blk_alloc ?_ _)); refine blk_far ?_ NB116_117.out _; (with_reducible repeat (first | refine blk_drewN ?_ _ | refine blk_drew ?_ | refine blk_alloc ?_ _)); refine blk_far ?_ NB116_117.out _; (with_reducible repeat (first | refine blk_drewN ?_ _ | refine blk_drew ?_ | refine blk_alloc ?_ _)); refine blk_far ?_ NB116_117.out _; (with_reducible repeat (first | refine blk_drewN ?_ _ | refine blk_drew ?_ | refine blk_alloc ?_ _)); refine blk_far ?_ NB116_117.out _; (with_reducible repeat (first | refine blk_drewN ?_ _ | refine blk_drew ?_ | refine blk_alloc ?_ _)); exact BK116.out) Try.underlying58 rfl (by kernel_rfl)) rfl ?_
 exact ⟨_, _, _, by first | rfl | (simp [errW_none, errW_some] <;> rfl) | (simp only [← hji3]; first | rfl | (simp [errW_none, errW_some] <;> rfl)) | (simp [*, errW_none, errW_some] <;> rfl), by first | exact Kd.R_nil _ _ _ _ _ | exact Kd.N_nil _ _ _ _ _ | exact Kd.V_nil _ _ _ _ _ | exact Kd.Q_nil _ _ _ _ _ | exact Kd.S_nil _ _ _ _ _, by first | exact Kd.R_nil _ _ _ _ _ | exact Kd.N_nil _ _ _ _ _ | exact Kd.V_nil _ _ _ _ _ | exact Kd.Q_nil _ _ _ _ _ | exact Kd.S_nil _ _ _ _ _, by first | exact Kd.R_nil _ _ _ _ _ | exact Kd.N_nil _ _ _ _ _ | exact Kd.V_nil _ _ _ _ _ | exact Kd.Q_nil _ _ _ _ _ | exact Kd.S_nil _ _ _ _ _, by repeat (first | (with_reducible first | exact HB.out | apply below_alloc | apply pw_below_drewN | apply below_drew1 | refine below_set ?_ GE115.out | refine below_set ?_ GE116.out | refine below_set ?_ GE117.out) | exact HB.out)⟩

end Go.Proofs.Ytdkjlbbbdjkhbaa.PAll

namespace Go.Proofs.Ytdkjlbbbdjkhbaa.PAll
open Go.RowKit Go.Proofs.YtdkjlbbbdjkhbaaW.PrintWords Go.Proofs.YtdkjlbbbdjkhbaaW.PrintLast Go.Proofs.YtdkjlbbbdjkhbaaW.PrintMore
attribute [local go_sem] max2_int min2_int max_two min_two max_three min_three max_four min_four   -- for this text's walks alone
open Go.Proofs.Ytdkjlbbbdjkhbaa.Hand

/-! ### reply_Passed: function 28 -/
def reply_Passed.f (a0_0 : Int) (a0_1 : Bool) (a0_2 : Int) (a0_3 : Bool) (a0_4 : Bool) (a0_5 : Bool) (a0_6 : Bool) (a0_7 : Int) (a0_8 : ByteArray) (a0_9 : Int) (l0_10 : List (S43)) (l0_11 : List (S43)) (l0_12 : List (S43)) (a0_13 : Int) (a1_0 : Int) (a1_1 : Bool) (a1_2 : Int) (a1_3 : Bool) (a1_4 : Bool) (a1_5 : Bool) (a1_6 : Bool) (a1_7 : Int) (a1_8 : ByteArray) (a1_9 : Int) (l1_10 : List (S43)) (l1_11 : List (S43)) (l1_12 : List (S43)) (a1_13 : Int) : Option (Int × Bool × Int × Bool × Bool × Bool × Bool × Int × ByteArray × Int × (List (S43)) × (List (S43)) × (List (S43)) × Int) := (reply_Base.f a0_0 a0_1 a0_2 a0_3 a0_4 a0_5 a0_6 a0_7 a0_8 a0_9 l0_10 l0_11 l0_12 a0_13 a1_7).bind fun bt121 => (if ([] : List (S43)).length + l1_10.length < 3518437208883 then (if ([] : List (S43)).length + l1_11.length < 3518437208883 then (if ([] : List (S43)).length + l1_12.length < 3518437208883 then (some (bt121.1, bt121.2.1, bt121.2.2.1, a1_3, bt121.2.2.2.2.1, bt121.2.2.2.2.2.1, bt121.2.2.2.2.2.2.1, bt121.2.2.2.2.2.2.2.1, bt121.2.2.2.2.2.2.2.2.1, bt121.2.2.2.2.2.2.2.2.2.1, (([] : List (S43)) ++ l1_10), (([] : List (S43)) ++ l1_11), (([] : List (S43)) ++ l1_12), bt121.2.2.2.2.2.2.2.2.2.2.2.2.2)) else (none)) else (none)) else (none))
set_option maxHeartbeats 8000000 in
set_option maxRecDepth 100000 in
theorem reply_Passed.calls (a0_0 : Int) (a0_1 : Bool) (a0_2 : Int) (a0_3 : Bool) (a0_4 : Bool) (a0_5 : Bool) (a0_6 : Bool) (a0_7 : Int) (a0_8 : ByteArray) (a0_9 : Int) (A0_10 : Option Addr) (c0_10 : Nat) (l0_10 : List (S43)) (A0_11 : Option Addr) (c0_11 : Nat) (l0_11 : List (S43)) (A0_12 : Option Addr) (c0_12 : Nat) (l0_12 : List (S43)) (a0_13 : Int) (a1_0 : Int) (a1_1 : Bool) (a1_2 : Int) (a1_3 : Bool) (a1_4 : Bool) (a1_5 : Bool) (a1_6 : Bool) (a1_7 : Int) (a1_8 : ByteArray) (a1_9 : Int) (A1_10 : Option Addr) (c1_10 : Nat) (l1_10 : List (S43)) (A1_11 : Option Addr) (c1_11 : Nat) (l1_11 : List (S43)) (A1_12 : Option Addr) (c1_12 : Nat) (l1_12 : List (S43)) (a1_13 : Int) (r1 : Int) (r2 : Bool) (r3 : Int) (r4 : Bool) (r5 : Bool) (r6 : Bool) (r7 : Bool) (r8 : Int) (r9 : ByteArray) (r10 : Int) (r11 : List (S43)) (r12 : List (S43)) (r13 : List (S43)) (r14 : Int) (w : World) (hr0_10 : Kd.C k43 w A0_10 l0_10.length l0_10) (hc0_10 : l0_10.length ≤ c0_10) (hr0_11 : Kd.C k43 w A0_11 l0_11.length l0_11) (hc0_11 : l0_11.length ≤ c0_11) (hr0_12 : Kd.C k43 w A0_12 l0_12.length l0_12) (hc0_12 : l0_12.length ≤ c0_12) (hr1_10 : Kd.C k43 w A1_10 l1_10.length l1_10) (hc1_10 : l1_10.length ≤ c1_10) (hr1_11 : Kd.C k43 w A1_11 l1_11.length l1_11) (hc1_11 : l1_11.length ≤ c1_11) (hr1_12 : Kd.C k43 w A1_12 l1_12.length l1_12) (hc1_12 : l1_12.length ≤ c1_12) (h : reply_Passed.f a0_0 a0_1 a0_2 a0_3 a0_4 a0_5 a0_6 a0_7 a0_8 a0_9 l0_10 l0_11 l0_12 a0_13 a1_0 a1_1 a1_2 a1_3 a1_4 a1_5 a1_6 a1_7 a1_8 a1_9 l1_10 l1_11 l1_12 a1_13 = some (r1, r2, r3, r4, r5, r6, r7, r8, r9, r10, r11, r12, r13, r14)) :
  Calls Try.prog 28 #[.agg #[.int .u16 a0_0, .bool a0_1, .int .i64 a0_2, .bool a0_3, .bool a0_4, .bool a0_5, .bool a0_6, .int .i64 a0_7, .string a0_8, .int .u16 a0_9, .slice A0_10 l0_10.length c0_10, .slice A0_11 l0_11.length c0_11, .slice A0_12 l0_12.length c0_12, .int .i64 a0_13], .agg #[.int .u16 a1_0, .bool a1_1, .int .i64 a1_2, .bool a1_3, .bool a1_4, .bool a1_5, .bool a1_6, .int .i64 a1_7, .string a1_8, .int .u16 a1_9, .slice A1_10 l1_10.length c1_10, .slice A1_11 l1_11.length c1_11, .slice A1_12 l1_12.length c1_12, .int .i64 a1_13]] w fun e w' => ∃ v10_ v11_ v12_ : Value, e = .returned (.agg #[.int .u16 r1, .bool r2, .int .i64 r3, .bool r4, .bool r5, .bool r6, .bool r7, .int .i64 r8, .string r9, .int .u16 r10, v10_, v11_, v12_, .int .i64 r14]) ∧ Kd.R k43 43 w' w.heap.size (fun k_ => some k_ ≠ (v11_ : Value).ownBlock ∧ some k_ ≠ (v12_ : Value).ownBlock) v10_ r11 ∧ Kd.R k43 43 w' w.heap.size (fun k_ => some k_ ≠ (v10_ : Value).ownBlock ∧ some k_ ≠ (v12_ : Value).ownBlock) v11_ r12 ∧ Kd.R k43 43 w' w.heap.size (fun k_ => some k_ ≠ (v10_ : Value).ownBlock ∧ some k_ ≠ (v11_ : Value).ownBlock) v12_ r13 ∧ Below w.heap.size w w' := by
 have hu58 := Try.underlying58
 have HR0_10 := Aside0.mk hr0_10
 have HC0_10 := Aside0.mk hc0_10
 clear hr0_10 hc0_10
 have HR0_11 := Aside0.mk hr0_11
 have HC0_11 := Aside0.mk hc0_11
 clear hr0_11 hc0_11
 have HR0_12 := Aside0.mk hr0_12
 have HC0_12 := Aside0.mk hc0_12
 clear hr0_12 hc0_12
 have HR1_10 := Aside0.mk hr1_10
 have HC1_10 := Aside0.mk hc1_10
 clear hr1_10 hc1_10
 have HR1_11 := Aside0.mk hr1_11
 have HC1_11 := Aside0.mk hc1_11
 clear hr1_11 hc1_11
 have HR1_12 := Aside0.mk hr1_12
 have HC1_12 := Aside0.mk hc1_12
 clear hr1_12 hc1_12
 have HB := Aside0.mk (Below.refl w.heap.size w)
 have H : ((reply_Base.f a0_0 a0_1 a0_2 a0_3 a0_4 a0_5 a0_6 a0_7 a0_8 a0_9 l0_10 l0_11 l0_12 a0_13 a1_7).bind fun bt121 => (if ([] : List (S43)).length + l1_10.length < 3518437208883 then (if ([] : List (S43)).length + l1_11.length < 3518437208883 then (if ([] : List (S43)).length + l1_12.length < 3518437208883 then (some (bt121.1, bt121.2.1, bt121.2.2.1, a1_3, bt121.2.2.2.2.1, bt121.2.2.2.2.2.1, bt121.2.2.2.2.2.2.1, bt121.2.2.2.2.2.2.2.1, bt121.2.2.2.2.2.2.2.2.1, bt121.2.2.2.2.2.2.2.2.2.1, (([] : List (S43)) ++ l1_10), (([] : List (S43)) ++ l1_11), (([] : List (S43)) ++ l1_12), bt121.2.2.2.2.2.2.2.2.2.2.2.2.2)) else (none)) else (none)) else (none))) = some (r1, r2, r3, r4, r5, r6, r7, r8, r9, r10, r11, r12, r13, r14) := h
 clear h
 replace H := Option.bind_eq_some_iff.mp H
 obtain ⟨⟨t121, t122, t123, t124, t125, t126, t127, t128, t129, t130, t131, t134, t137, t140⟩, A30, H⟩ := H
 replace H : (if ([] : List (S43)).length + l1_10.length < 3518437208883 then (if ([] : List (S43)).length + l1_11.length < 3518437208883 then (if ([] : List (S43)).length + l1_12.length < 3518437208883 then (some (t121, t122, t123, a1_3, t125, t126, t127, t128, t129, t130, (([] : List (S43)) ++ l1_10), (([] : List (S43)) ++ l1_11), (([] : List (S43)) ++ l1_12), t140)) else (none)) else (none)) else (none)) = some (r1, r2, r3, r4, r5, r6, r7, r8, r9, r10, r11, r12, r13, r14) := H
 have A3 := Aside0.mk A30
 clear A30
 by_cases c4 : ([] : List (S43)).length + l1_10.length < 3518437208883
 ·rw [if_pos c4] at H
  have LMc4 := Aside0.mk c4
  clear c4
  obtain ⟨y142, hy142⟩ : ∃ y_ : List (S43), y_ = (([] : List (S43)) ++ l1_10) := ⟨_, rfl⟩
  replace H : (if ([] : List (S43)).length + l1_11.length < 3518437208883 then (if ([] : List (S43)).length + l1_12.length < 3518437208883 then (some (t121, t122, t123, a1_3, t125, t126, t127, t128, t129, t130, y142, (([] : List (S43)) ++ l1_11), (([] : List (S43)) ++ l1_12), t140)) else (none)) else (none)) = some (r1, r2, r3, r4, r5, r6, r7, r8, r9, r10, r11, r12, r13, r14) := by first | (rw [hy142]; with_reducible exact H) | (have H2_ := (Option.bind_some _ _).symm.trans H; rw [hy142]; with_reducible exact H2_) | (have H2_ := (Option.bind_some _ _).symm.trans H; with_reducible exact H2_) | with_reducible exact H | (rw [hy142]; exact H) | exact H
  have Ny142 := Aside0.mk hy142
  clear hy142
  by_cases c5 : ([] : List (S43)).length + l1_11.length < 3518437208883
  ·rw [if_pos c5] at H
   have LMc5 := Aside0.mk c5
   clear c5
   obtain ⟨y145, hy145⟩ : ∃ y_ : List (S43), y_ = (([] : List (S43)) ++ l1_11) := ⟨_, rfl⟩
   replace H : (if ([] : List (S43)).length + l1_12.length < 3518437208883 then (some (t121, t122, t123, a1_3, t125, t126, t127, t128, t129, t130, y142, y145, (([] : List (S43)) ++ l1_12), t140)) else (none)) = some (r1, r2, r3, r4, r5, r6, r7, r8, r9, r10, r11, r12, r13, r14) := by first | (rw [hy145]; with_reducible exact H) | (have H2_ := (Option.bind_some _ _).symm.trans H; rw [hy145]; with_reducible exact H2_) | (have H2_ := (Option.bind_some _ _).symm.trans H; with_reducible exact H2_) | with_reducible exact H | (rw [hy145]; exact H) | exact H
   have Ny145 := Aside0.mk hy145
   clear hy145
   by_cases c6 : ([] : List (S43)).length + l1_12.length < 3518437208883
   ·rw [if_pos c6] at H
    have LMc6 := Aside0.mk c6
    clear c6
    obtain ⟨y148, hy148⟩ : ∃ y_ : List (S43), y_ = (([] : List (S43)) ++ l1_12) := ⟨_, rfl⟩
    replace H : (some (t121, t122, t123, a1_3, t125, t126, t127, t128, t129, t130, y142, y145, y148, t140)) = some (r1, r2, r3, r4, r5, r6, r7, r8, r9, r10, r11, r12, r13, r14) := by first | (rw [hy148]; with_reducible exact H) | (have H2_ := (Option.bind_some _ _).symm.trans H; rw [hy148]; with_reducible exact H2_) | (have H2_ := (Option.bind_some _ _).symm.trans H; with_reducible exact H2_) | with_reducible exact H | (rw [hy148]; exact H) | exact H
    have Ny148 := Aside0.mk hy148
    clear hy148
    simp only [Option.some.injEq, Prod.mk.injEq] at H
    obtain ⟨rfl, rfl, rfl, rfl, rfl, rfl, rfl, rfl, rfl, rfl, rfl, rfl, rfl, rfl⟩ := H
    go_enter Try.func28, Try.ntmps28
    go_wp2_with (first | ((with_reducible refine gate_dst (N := 2) rfl ?_); refine box_event ?hg (N := 2) ?hd (cs := #[.int .u16 a0_0, .bool a0_1, .int .i64 a0_2, .bool a0_3, .bool a0_4, .bool a0_5, .bool a0_6, .int .i64 a0_7, .string a0_8, .int .u16 a0_9, .slice A0_10 l0_10.length c0_10, .slice A0_11 l0_11.length c0_11, .slice A0_12 l0_12.length c0_12, .int .i64 a0_13]) (t := 58) ?hr ?_; (case hd => rfl); (case hg => rfl); (case hr => first | (go_simp; done) | (go_simp; rfl)); intro gb118 hg w7 hbox hb; have n0_ := Aside0.mk (below_step (by repeat (first | (with_reducible first | exact HB.out | apply below_alloc | apply pw_below_drewN | apply below_drew1) | exact HB.out)) hb); have n1_ := Aside0.mk (hbox); have n2_ := Aside0.mk ((by rw [hg]; exact (below_size (by repeat (first | (with_reducible first | exact HB.out | apply below_alloc | apply pw_below_drewN | apply below_drew1) | exact HB.out))) : w.heap.size ≤ gb118)); have n3_ := Aside0.mk ((by rw [hg]; exact (below_size (by repeat (first | (with_reducible first | exact HB.out | apply below_alloc | apply pw_below_drewN | apply below_drew1) | exact HB.out))) : w.heap.size ≤ gb118)); clear HB; have HB := n0_; have BK118 := n1_; have GW118 := n2_; have GE118 := n3_; clear n0_ n1_ n2_ n3_; clear hb hbox hg) | ((with_reducible refine gate_dst (N := 3) rfl ?_); refine box_event ?hg (N := 3) ?hd (cs := #[.int .u16 a1_0, .bool a1_1, .int .i64 a1_2, .bool a1_3, .bool a1_4, .bool a1_5, .bool a1_6, .int .i64 a1_7, .string a1_8, .int .u16 a1_9, .slice A1_10 l1_10.length c1_10, .slice A1_11 l1_11.length c1_11, .slice A1_12 l1_12.length c1_12, .int .i64 a1_13]) (t := 58) ?hr ?_; (case hd => rfl); (case hg => rfl); (case hr => first | (go_simp; done) | (go_simp; rfl)); intro gb119 hg w8 hbox hb; have n0_ := Aside0.mk (blk_below (g := gb118) (o := .cells #[.int .u16 a0_0, .bool a0_1, .int .i64 a0_2, .bool a0_3, .bool a0_4, .bool a0_5, .bool a0_6, .int .i64 a0_7, .string a0_8, .int .u16 a0_9, .slice A0_10 l0_10.length c0_10, .slice A0_11 l0_11.length c0_11, .slice A0_12 l0_12.length c0_12, .int .i64 a0_13] 58 (0, 0)) (by (with_reducible repeat (first | refine blk_drewN ?_ _ | refine blk_drew ?_ | refine blk_alloc ?_ _)); exact BK118.out) hb); have n1_ := Aside0.mk (below_step (by repeat (first | (with_reducible first | exact HB.out | apply below_alloc | apply pw_below_drewN | apply below_drew1 | refine below_set ?_ GE118.out) | exact HB.out)) hb); have n2_ := Aside0.mk (hbox); have n3_ := Aside0.mk ((by rw [hg]; exact (below_size (by repeat (first | (with_reducible first | exact HB.out | apply below_alloc | apply pw_below_drewN | apply below_drew1 | refine below_set ?_ GE118.out) | exact HB.out))) : w.heap.size ≤ gb119)); have n4_ := Aside0.mk ((by rw [hg]; exact (below_size (by repeat (first | (with_reducible first | exact HB.out | apply below_alloc | apply pw_below_drewN | apply below_drew1 | refine below_set ?_ GE118.out) | exact HB.out))) : w.heap.size ≤ gb119)); have n5_ := Aside0.mk ((by rw [hg]; exact Nat.ne_of_lt (blk_lt (g := gb118) (o := .cells #[.int .u16 a0_0, .bool a0_1, .int .i64 a0_2, .bool a0_3, .bool a0_4, .bool a0_5, .bool a0_6, .int .i64 a0_7, .string a0_8, .int .u16 a0_9, .slice A0_10 l0_10.length c0_10, .slice A0_11 l0_11.length c0_11, .slice A0_12 l0_12.length c0_12, .int .i64 a0_13] 58 (0, 0)) (by (with_reducible repeat (first | refine blk_drewN ?_ _ | refine blk_drew ?_ | refine blk_alloc ?_ _)); exact BK118.out)) : gb118 ≠ gb119)); have n6_ := Aside0.mk ((by rw [hg]; exact Nat.ne_of_gt (blk_lt (g := gb118) (o := .cells #[.int .u16 a0_0, .bool a0_1, .int .i64 a0_2, .bool a0_3, .bool a0_4, .bool a0_5, .bool a0_6, .int .i64 a0_7, .string a0_8, .int .u16 a0_9, .slice A0_10 l0_10.length c0_10, .slice A0_11 l0_11.length c0_11, .slice A0_12 l0_12.length c0_12, .int .i64 a0_13] 58 (0, 0)) (by (with_reducible repeat (first | refine blk_drewN ?_ _ | refine blk_drew ?_ | refine blk_alloc ?_ _)); exact BK118.out)) : gb119 ≠ gb118)); clear BK118; clear HB; have BK118 := n0_; have HB := n1_; have BK119 := n2_; have GW119 := n3_; have GE119 := n4_; have NB118_119 := n5_; have NB119_118 := n6_; clear n0_ n1_ n2_ n3_ n4_ n5_ n6_; clear hb hbox hg) | ((with_reducible refine gate_dst (N := 4) rfl ?_); refine box_event ?hg (N := 4) ?hd (cs := #[.int .u16 0, .bool false, .int .i64 0, .bool false, .bool false, .bool false, .bool false, .int .i64 0, .string (⟨#[]⟩ : ByteArray), .int .u16 0, .slice none 0 0, .slice none 0 0, .slice none 0 0, .int .i64 0]) (t := 58) ?hr ?_; (case hd => rfl); (case hg => rfl); (case hr => first | (go_simp; done) | (go_simp; rfl)); intro gb120 hg w9 hbox hb; have n0_ := Aside0.mk (blk_below (g := gb118) (o := .cells #[.int .u16 a0_0, .bool a0_1, .int .i64 a0_2, .bool a0_3, .bool a0_4, .bool a0_5, .bool a0_6, .int .i64 a0_7, .string a0_8, .int .u16 a0_9, .slice A0_10 l0_10.length c0_10, .slice A0_11 l0_11.length c0_11, .slice A0_12 l0_12.length c0_12, .int .i64 a0_13] 58 (0, 0)) (by (with_reducible repeat (first | refine blk_drewN ?_ _ | refine blk_drew ?_ | refine blk_alloc ?_ _)); exact BK118.out) hb); have n1_ := Aside0.mk (blk_below (g := gb119) (o := .cells #[.int .u16 a1_0, .bool a1_1, .int .i64 a1_2, .bool a1_3, .bool a1_4, .bool a1_5, .bool a1_6, .int .i64 a1_7, .string a1_8, .int .u16 a1_9, .slice A1_10 l1_10.length c1_10, .slice A1_11 l1_11.length c1_11, .slice A1_12 l1_12.length c1_12, .int .i64 a1_13] 58 (0, 0)) (by (with_reducible repeat (first | refine blk_drewN ?_ _ | refine blk_drew ?_ | refine blk_alloc ?_ _)); exact BK119.out) hb); have n2_ := Aside0.mk (below_step (by repeat (first | (with_reducible first | exact HB.out | apply below_alloc | apply pw_below_drewN | apply below_drew1 | refine below_set ?_ GE118.out | refine below_set ?_ GE119.out) | exact HB.out)) hb); have n3_ := Aside0.mk (hbox); have n4_ := Aside0.mk ((by rw [hg]; exact (below_size (by repeat (first | (with_reducible first | exact HB.out | apply below_alloc | apply pw_below_drewN | apply below_drew1 | refine below_set ?_ GE118.out | refine below_set ?_ GE119.out) | exact HB.out))) : w.heap.size ≤ gb120)); have n5_ := Aside0.mk ((by rw [hg]; exact (below_size (by repeat (first | (with_reducible first | exact HB.out | apply below_alloc | apply pw_below_drewN | apply below_drew1 | refine below_set ?_ GE118.out | refine below_set ?_ GE119.out) | exact HB.out))) : w.heap.size ≤ gb120)); have n6_ := Aside0.mk ((by rw [hg]; exact Nat.ne_of_lt (blk_lt (g := gb118) (o := .cells #[.int .u16 a0_0, .bool a0_1, .int .i64 a0_2, .bool a0_3, .bool a0_4, .bool a0_5, .bool a0_6, .int .i64 a0_7, .string a0_8, .int .u16 a0_9, .slice A0_10 l0_10.length c0_10, .slice A0_11 l0_11.length c0_11, .slice A0_12 l0_12.length c0_12, .int .i64 a0_13] 58 (0, 0)) (by (with_reducible repeat (first | refine blk_drewN ?_ _ | refine blk_drew ?_ | refine blk_alloc ?_ _)); exact BK118.out)) : gb118 ≠ gb120)); have n7_ := Aside0.mk ((by rw [hg]; exact Nat.ne_of_gt (blk_lt (g := gb118) (o := .cells #[.int .u16 a0_0, .bool a0_1, .int .i64 a0_2, .bool a0_3, .bool a0_4, .bool a0_5, .bool a0_6, .int .i64 a0_7, .string a0_8, .int .u16 a0_9, .slice A0_10 l0_10.length c0_10, .slice A0_11 l0_11.length c0_11, .slice A0_12 l0_12.length c0_12, .int .i64 a0_13] 58 (0, 0)) (by (with_reducible repeat (first | refine blk_drewN ?_ _ | refine blk_drew ?_ | refine blk_alloc ?_ _)); exact BK118.out)) : gb120 ≠ gb118)); have n8_ := Aside0.mk ((by rw [hg]; exact Nat.ne_of_lt (blk_lt (g := gb119) (o := .cells #[.int .u16 a1_0, .bool a1_1, .int .i64 a1_2, .bool a1_3, .bool a1_4, .bool a1_5, .bool a1_6, .int .i64 a1_7, .string a1_8, .int .u16 a1_9, .slice A1_10 l1_10.length c1_10, .slice A1_11 l1_11.length c1_11, .slice A1_12 l1_12.length c1_12, .int .i64 a1_13] 58 (0, 0)) (by (with_reducible repeat (first | refine blk_drewN ?_ _ | refine blk_drew ?_ | refine blk_alloc ?_ _)); exact BK119.out)) : gb119 ≠ gb120)); have n9_ := Aside0.mk ((by rw [hg]; exact Nat.ne_of_gt (blk_lt (g := gb119) (o := .cells #[.int .u16 a1_0, .bool a1_1, .int .i64 a1_2, .bool a1_3, .bool a1_4, .bool a1_5, .bool a1_6, .int .i64 a1_7, .string a1_8, .int .u16 a1_9, .slice A1_10 l1_10.length c1_10, .slice A1_11 l1_11.length c1_11, .slice A1_12 l1_12.length c1_12, .int .i64 a1_13] 58 (0, 0)) (by (with_reducible repeat (first | refine blk_drewN ?_ _ | refine blk_drew ?_ | refine blk_alloc ?_ _)); exact BK119.out)) : gb120 ≠ gb119)); clear BK118; clear BK119; clear HB; have BK118 := n0_; have BK119 := n1_; have HB := n2_; have BK120 := n3_; have GW120 := n4_; have GE120 := n5_; have NB118_120 := n6_; have NB120_118 := n7_; have NB119_120 := n8_; have NB120_119 := n9_; clear n0_ n1_ n2_ n3_ n4_ n5_ n6_ n7_ n8_ n9_; clear hb hbox hg; have hnb10 := NB118_119.out; have hnc10 := NB119_118.out; have hnb11 := NB118_120.out; have hnc11 := NB120_118.out; have hcz12_0 : w9.cell? ⟨gb118, 0, none⟩ = some (.int .u16 a0_0) := (blk_cell BK118.out 0).trans rfl; have hcz12_1 : w9.cell? ⟨gb118, 1, none⟩ = some (.bool a0_1) := (blk_cell BK118.out 1).trans rfl; have hcz12_2 : w9.cell? ⟨gb118, 2, none⟩ = some (.int .i64 a0_2) := (blk_cell BK118.out 2).trans rfl; have hcz12_3 : w9.cell? ⟨gb118, 3, none⟩ = some (.bool a0_3) := (blk_cell BK118.out 3).trans rfl; have hcz12_4 : w9.cell? ⟨gb118, 4, none⟩ = some (.bool a0_4) := (blk_cell BK118.out 4).trans rfl; have hcz12_5 : w9.cell? ⟨gb118, 5, none⟩ = some (.bool a0_5) := (blk_cell BK118.out 5).trans rfl; have hcz12_6 : w9.cell? ⟨gb118, 6, none⟩ = some (.bool a0_6) := (blk_cell BK118.out 6).trans rfl; have hcz12_7 : w9.cell? ⟨gb118, 7, none⟩ = some (.int .i64 a0_7) := (blk_cell BK118.out 7).trans rfl; have hcz12_8 : w9.cell? ⟨gb118, 8, none⟩ = some (.string a0_8) := (blk_cell BK118.out 8).trans rfl; have hcz12_9 : w9.cell? ⟨gb118, 9, none⟩ = some (.int .u16 a0_9) := (blk_cell BK118.out 9).trans rfl; have hcz12_10 : w9.cell? ⟨gb118, 10, none⟩ = some (.slice A0_10 l0_10.length c0_10) := (blk_cell BK118.out 10).trans rfl; have hcz12_11 : w9.cell? ⟨gb118, 11, none⟩ = some (.slice A0_11 l0_11.length c0_11) := (blk_cell BK118.out 11).trans rfl; have hcz12_12 : w9.cell? ⟨gb118, 12, none⟩ = some (.slice A0_12 l0_12.length c0_12) := (blk_cell BK118.out 12).trans rfl; have hcz12_13 : w9.cell? ⟨gb118, 13, none⟩ = some (.int .i64 a0_13) := (blk_cell BK118.out 13).trans rfl; have hfz12_0 := blk_frozen BK118.out 0; have hfz12_1 := blk_frozen BK118.out 1; have hfz12_2 := blk_frozen BK118.out 2; have hfz12_3 := blk_frozen BK118.out 3; have hfz12_4 := blk_frozen BK118.out 4; have hfz12_5 := blk_frozen BK118.out 5; have hfz12_6 := blk_frozen BK118.out 6; have hfz12_7 := blk_frozen BK118.out 7; have hfz12_8 := blk_frozen BK118.out 8; have hfz12_9 := blk_frozen BK118.out 9; have hfz12_10 := blk_frozen BK118.out 10; have hfz12_11 := blk_frozen BK118.out 11; have hfz12_12 := blk_frozen BK118.out 12; have hfz12_13 := blk_frozen BK118.out 13; have hnb13 := NB119_120.out; have hnc13 := NB120_119.out; have hcz14_0 : w9.cell? ⟨gb119, 0, none⟩ = some (.int .u16 a1_0) := (blk_cell BK119.out 0).trans rfl; have hcz14_1 : w9.cell? ⟨gb119, 1, none⟩ = some (.bool a1_1) := (blk_cell BK119.out 1).trans rfl; have hcz14_2 : w9.cell? ⟨gb119, 2, none⟩ = some (.int .i64 a1_2) := (blk_cell BK119.out 2).trans rfl; have hcz14_3 : w9.cell? ⟨gb119, 3, none⟩ = some (.bool a1_3) := (blk_cell BK119.out 3).trans rfl; have hcz14_4 : w9.cell? ⟨gb119, 4, none⟩ = some (.bool a1_4) := (blk_cell BK119.out 4).trans rfl; have hcz14_5 : w9.cell? ⟨gb119, 5, none⟩ = some (.bool a1_5) := (blk_cell BK119.out 5).trans rfl; have hcz14_6 : w9.cell? ⟨gb119, 6, none⟩ = some (.bool a1_6) := (blk_cell BK119.out 6).trans rfl; have hcz14_7 : w9.cell? ⟨gb119, 7, none⟩ = some (.int .i64 a1_7) := (blk_cell BK119.out 7).trans rfl; have hcz14_8 : w9.cell? ⟨gb119, 8, none⟩ = some (.string a1_8) := (blk_cell BK119.out 8).trans rfl; have hcz14_9 : w9.cell? ⟨gb119, 9, none⟩ = some (.int .u16 a1_9) := (blk_cell BK119.out 9).trans rfl; have hcz14_10 : w9.cell? ⟨gb119, 10, none⟩ = some (.slice A1_10 l1_10.length c1_10) := (blk_cell BK119.out 10).trans rfl; have hcz14_11 : w9.cell? ⟨gb119, 11, none⟩ = some (.slice A1_11 l1_11.length c1_11) := (blk_cell BK119.out 11).trans rfl; have hcz14_12 : w9.cell? ⟨gb119, 12, none⟩ = some (.slice A1_12 l1_12.length c1_12) := (blk_cell BK119.out 12).trans rfl; have hcz14_13 : w9.cell? ⟨gb119, 13, none⟩ = some (.int .i64 a1_13) := (blk_cell BK119.out 13).trans rfl; have hfz14_0 := blk_frozen BK119.out 0; have hfz14_1 := blk_frozen BK119.out 1; have hfz14_2 := blk_frozen BK119.out 2; have hfz14_3 := blk_frozen BK119.out 3; have hfz14_4 := blk_frozen BK119.out 4; have hfz14_5 := blk_frozen BK119.out 5; have hfz14_6 := blk_frozen BK119.out 6; have hfz14_7 := blk_frozen BK119.out 7; have hfz14_8 := blk_frozen BK119.out 8; have hfz14_9 := blk_frozen BK119.out 9; have hfz14_10 := blk_frozen BK119.out 10; have hfz14_11 := blk_frozen BK119.out 11; have hfz14_12 := blk_frozen BK119.out 12; have hfz14_13 := blk_frozen BK119.out 13) | ((with_reducible refine gate_callee (f := 26) rfl ?_); refine goesL_ (some 10) rfl rfl Try.func26 (by kernel_rfl) rfl #[.agg #[.int .u16 a0_0, .bool a0_1, .int .i64 a0_2, .bool a0_3, .bool a0_4, .bool a0_5, .bool a0_6, .int .i64 a0_7, .string a0_8, .int .u16 a0_9, .slice A0_10 l0_10.length c0_10, .slice A0_11 l0_11.length c0_11, .slice A0_12 l0_12.length c0_12, .int .i64 a0_13], .int .i64 a1_7] rfl (by (try simp only [List.map_toArray, List.map_cons, List.map_nil]); first | done | rfl | (simp only [List.length_drop, List.length_take]; rfl)) ?_; (with_reducible refine (reply_Base.calls a0_0 a0_1 a0_2 a0_3 a0_4 a0_5 a0_6 a0_7 a0_8 a0_9 _ _ l0_10 _ _ l0_11 _ _ l0_12 a0_13 a1_7 t121 t122 t123 t124 t125 t126 t127 t128 t129 t130 t131 t134 t137 t140 _ ?side1 ?side2 ?side3 ?side4 ?side5 ?side6 A3.out).mono ?_); (case side1 => repeat (first | exact (Kd.C_below HR0_10.out HB.out) | (with_reducible refine Kd.C_alloc ?_ _) | (with_reducible refine Kd.C_drewN ?_ _) | (with_reducible refine Kd.C_drew ?_))); (case side2 => exact HC0_10.out); (case side3 => repeat (first | exact (Kd.C_below HR0_11.out HB.out) | (with_reducible refine Kd.C_alloc ?_ _) | (with_reducible refine Kd.C_drewN ?_ _) | (with_reducible refine Kd.C_drew ?_))); (case side4 => exact HC0_11.out); (case side5 => repeat (first | exact (Kd.C_below HR0_12.out HB.out) | (with_reducible refine Kd.C_alloc ?_ _) | (with_reducible refine Kd.C_drewN ?_ _) | (with_reducible refine Kd.C_drew ?_))); (case side6 => exact HC0_12.out); rintro e w15 ⟨v132, v135, v138, rfl, ho0, ho1, ho2, hb⟩; refine ⟨_, rfl, ?_⟩; have n0_ := Aside0.mk (Kd.R_lower ho0 (below_size (by repeat (first | (with_reducible first | exact HB.out | apply below_alloc | apply pw_below_drewN | apply below_drew1 | refine below_set ?_ GE118.out | refine below_set ?_ GE119.out | refine below_set ?_ GE120.out) | exact HB.out)))); have n1_ := Aside0.mk (Kd.R_lower ho1 (below_size (by repeat (first | (with_reducible first | exact HB.out | apply below_alloc | apply pw_below_drewN | apply below_drew1 | refine below_set ?_ GE118.out | refine below_set ?_ GE119.out | refine below_set ?_ GE120.out) | exact HB.out)))); have n2_ := Aside0.mk (Kd.R_lower ho2 (below_size (by repeat (first | (with_reducible first | exact HB.out | apply below_alloc | apply pw_below_drewN | apply below_drew1 | refine below_set ?_ GE118.out | refine below_set ?_ GE119.out | refine below_set ?_ GE120.out) | exact HB.out)))); have n3_ := Aside0.mk (blk_below (g := gb118) (o := .cells #[.int .u16 a0_0, .bool a0_1, .int .i64 a0_2, .bool a0_3, .bool a0_4, .bool a0_5, .bool a0_6, .int .i64 a0_7, .string a0_8, .int .u16 a0_9, .slice A0_10 l0_10.length c0_10, .slice A0_11 l0_11.length c0_11, .slice A0_12 l0_12.length c0_12, .int .i64 a0_13] 58 (0, 0)) (by (with_reducible repeat (first | refine blk_drewN ?_ _ | refine blk_drew ?_ | refine blk_alloc ?_ _)); exact BK118.out) hb); have n4_ := Aside0.mk (blk_below (g := gb119) (o := .cells #[.int .u16 a1_0, .bool a1_1, .int .i64 a1_2, .bool a1_3, .bool a1_4, .bool a1_5, .bool a1_6, .int .i64 a1_7, .string a1_8, .int .u16 a1_9, .slice A1_10 l1_10.length c1_10, .slice A1_11 l1_11.length c1_11, .slice A1_12 l1_12.length c1_12, .int .i64 a1_13] 58 (0, 0)) (by (with_reducible repeat (first | refine blk_drewN ?_ _ | refine blk_drew ?_ | refine blk_alloc ?_ _)); exact BK119.out) hb); have n5_ := Aside0.mk (blk_below (g := gb120) (o := .cells #[.int .u16 0, .bool false, .int .i64 0, .bool false, .bool false, .bool false, .bool false, .int .i64 0, .string (⟨#[]⟩ : ByteArray), .int .u16 0, .slice none 0 0, .slice none 0 0, .slice none 0 0, .int .i64 0] 58 (0, 0)) (by (with_reducible repeat (first | refine blk_drewN ?_ _ | refine blk_drew ?_ | refine blk_alloc ?_ _)); exact BK120.out) hb); have n6_ := Aside0.mk (below_step (by repeat (first | (with_reducible first | exact HB.out | apply below_alloc | apply pw_below_drewN | apply below_drew1 | refine below_set ?_ GE118.out | refine below_set ?_ GE119.out | refine below_set ?_ GE120.out) | exact HB.out)) hb); clear BK118; clear BK119; clear BK120; clear HB; have HO133 := n0_; have HO136 := n1_; have HO139 := n2_; have BK118 := n3_; have BK119 := n4_; have BK120 := n5_; have HB := n6_; clear n0_ n1_ n2_ n3_ n4_ n5_ n6_; (try clear hb); (try clear hb2); (try clear hk); (try clear hi); (try clear ho0); (try clear ho1); (try clear ho2)) | ((with_reducible refine gate_dst (N := 5) rfl ?_); refine box_event ?hg (N := 5) ?hd (cs := #[.int .u16 0, .bool false, .int .i64 0, .bool false, .bool false, .bool false, .bool false, .int .i64 0, .string (⟨#[]⟩ : ByteArray), .int .u16 0, .slice none 0 0, .slice none 0 0, .slice none 0 0, .int .i64 0]) (t := 58) ?hr ?_; (case hd => rfl); (case hg => rfl); (case hr => first | (go_simp; done) | (go_simp; rfl)); intro gb141 hg w16 hbox hb; have n0_ := Aside0.mk (Kd.R_below (by (with_reducible repeat (first | apply Kd.R_alloc | apply Kd.R_drewN | apply Kd.R_drew)); exact HO133.out) hb); have n1_ := Aside0.mk (Kd.R_below (by (with_reducible repeat (first | apply Kd.R_alloc | apply Kd.R_drewN | apply Kd.R_drew)); exact HO136.out) hb); have n2_ := Aside0.mk (Kd.R_below (by (with_reducible repeat (first | apply Kd.R_alloc | apply Kd.R_drewN | apply Kd.R_drew)); exact HO139.out) hb); have n3_ := Aside0.mk (blk_below (g := gb118) (o := .cells #[.int .u16 a0_0, .bool a0_1, .int .i64 a0_2, .bool a0_3, .bool a0_4, .bool a0_5, .bool a0_6, .int .i64 a0_7, .string a0_8, .int .u16 a0_9, .slice A0_10 l0_10.length c0_10, .slice A0_11 l0_11.length c0_11, .slice A0_12 l0_12.length c0_12, .int .i64 a0_13] 58 (0, 0)) (by (with_reducible repeat (first | refine blk_drewN ?_ _ | refine blk_drew ?_ | refine blk_alloc ?_ _)); exact BK118.out) hb); have n4_ := Aside0.mk (blk_below (g := gb119) (o := .cells #[.int .u16 a1_0, .bool a1_1, .int .i64 a1_2, .bool a1_3, .bool a1_4, .bool a1_5, .bool a1_6, .int .i64 a1_7, .string a1_8, .int .u16 a1_9, .slice A1_10 l1_10.length c1_10, .slice A1_11 l1_11.length c1_11, .slice A1_12 l1_12.length c1_12, .int .i64 a1_13] 58 (0, 0)) (by (with_reducible repeat (first | refine blk_drewN ?_ _ | refine blk_drew ?_ | refine blk_alloc ?_ _)); exact BK119.out) hb); have n5_ := Aside0.mk (blk_below (g := gb120) (o := .cells #[.int .u16 0, .bool false, .int .i64 0, .bool false, .bool false, .bool false, .bool false, .int .i64 0, .string (⟨#[]⟩ : ByteArray), .int .u16 0, .slice none 0 0, .slice none 0 0, .slice none 0 0, .int .i64 0] 58 (0, 0)) (by (with_reducible repeat (first | refine blk_drewN ?_ _ | refine blk_drew ?_ | refine blk_alloc ?_ _)); exact BK120.out) hb); have n6_ := Aside0.mk (below_step (by repeat (first | (with_reducible first | exact HB.out | apply below_alloc | apply pw_below_drewN | apply below_drew1 | refine below_set ?_ GE118.out | refine below_set ?_ GE119.out | refine below_set ?_ GE120.out) | exact HB.out)) hb); have n7_ := Aside0.mk (hbox); have n8_ := Aside0.mk ((by rw [hg]; exact (below_size (by repeat (first | (with_reducible first | exact HB.out | apply below_alloc | apply pw_below_drewN | apply below_drew1 | refine below_set ?_ GE118.out | refine below_set ?_ GE119.out | refine below_set ?_ GE120.out) | exact HB.out))) : w.heap.size ≤ gb141)); have n9_ := Aside0.mk ((by rw [hg]; exact (below_size (by repeat (first | (with_reducible first | exact HB.out | apply below_alloc | apply pw_below_drewN | apply below_drew1 | refine below_set ?_ GE118.out | refine below_set ?_ GE119.out | refine below_set ?_ GE120.out) | exact HB.out))) : w.heap.size ≤ gb141)); have n10_ := Aside0.mk ((by rw [hg]; exact Nat.ne_of_lt (blk_lt (g := gb118) (o := .cells #[.int .u16 a0_0, .bool a0_1, .int .i64 a0_2, .bool a0_3, .bool a0_4, .bool a0_5, .bool a0_6, .int .i64 a0_7, .string a0_8, .int .u16 a0_9, .slice A0_10 l0_10.length c0_10, .slice A0_11 l0_11.length c0_11, .slice A0_12 l0_12.length c0_12, .int .i64 a0_13] 58 (0, 0)) (by (with_reducible repeat (first | refine blk_drewN ?_ _ | refine blk_drew ?_ | refine blk_alloc ?_ _)); exact BK118.out)) : gb118 ≠ gb141)); have n11_ := Aside0.mk ((by rw [hg]; exact Nat.ne_of_gt (blk_lt (g := gb118) (o := .cells #[.int .u16 a0_0, .bool a0_1, .int .i64 a0_2, .bool a0_3, .bool a0_4, .bool a0_5, .bool a0_6, .int .i64 a0_7, .string a0_8, .int .u16 a0_9, .slice A0_10 l0_10.length c0_10, .slice A0_11 l0_11.length c0_11, .slice A0_12 l0_12.length c0_12, .int .i64 a0_13] 58 (0, 0)) (by (with_reducible repeat (first | refine blk_drewN ?_ _ | refine blk_drew ?_ | refine blk_alloc ?_ _)); exact BK118.out)) : gb141 ≠ gb118)); have n12_ := Aside0.mk ((by rw [hg]; exact Nat.ne_of_lt (blk_lt (g := gb119) (o := .cells #[.int .u16 a1_0, .bool a1_1, .int .i64 a1_2, .bool a1_3, .bool a1_4, .bool a1_5, .bool a1_6, .int .i64 a1_7, .string a1_8, .int .u16 a1_9, .slice A1_10 l1_10.length c1_10, .slice A1_11 l1_11.length c1_11, .slice A1_12 l1_12.length c1_12, .int .i64 a1_13] 58 (0, 0)) (by (with_reducible repeat (first | refine blk_drewN ?_ _ | refine blk_drew ?_ | refine blk_alloc ?_ _)); exact BK119.out)) : gb119 ≠ gb141)); have n13_ := Aside0.mk ((by rw [hg]; exact Nat.ne_of_gt (blk_lt (g := gb119) (o := .cells #[.int .u16 a1_0, .bool a1_1, .int .i64 a1_2, .bool a1_3, .bool a1_4, .bool a1_5, .bool a1_6, .int .i64 a1_7, .string a1_8, .int .u16 a1_9, .slice A1_10 l1_10.length c1_10, .slice A1_11 l1_11.length c1_11, .slice A1_12 l1_12.length c1_12, .int .i64 a1_13] 58 (0, 0)) (by (with_reducible repeat (first | refine blk_drewN ?_ _ | refine blk_drew ?_ | refine blk_alloc ?_ _)); exact BK119.out)) : gb141 ≠ gb119)); have n14_ := Aside0.mk ((by rw [hg]; exact Nat.ne_of_lt (blk_lt (g := gb120) (o := .cells #[.int .u16 0, .bool false, .int .i64 0, .bool false, .bool false, .bool false, .bool false, .int .i64 0, .string (⟨#[]⟩ : ByteArray), .int .u16 0, .slice none 0 0, .slice none 0 0, .slice none 0 0, .int .i64 0] 58 (0, 0)) (by (with_reducible repeat (first | refine blk_drewN ?_ _ | refine blk_drew ?_ | refine blk_alloc ?_ _)); exact BK120.out)) : gb120 ≠ gb141)); have n15_ := Aside0.mk ((by rw [hg]; exact Nat.ne_of_gt (blk_lt (g := gb120) (o := .cells #[.int .u16 0, .bool false, .int .i64 0, .bool false, .bool false, .bool false, .bool false, .int .i64 0, .string (⟨#[]⟩ : ByteArray), .int .u16 0, .slice none 0 0, .slice none 0 0, .slice none 0 0, .int .i64 0] 58 (0, 0)) (by (with_reducible repeat (first | refine blk_drewN ?_ _ | refine blk_drew ?_ | refine blk_alloc ?_ _)); exact BK120.out)) : gb141 ≠ gb120)); clear HO133; clear HO136; clear HO139; clear BK118; clear BK119; clear BK120; clear HB; have HO133 := n0_; have HO136 := n1_; have HO139 := n2_; have BK118 := n3_; have BK119 := n4_; have BK120 := n5_; have HB := n6_; have BK141 := n7_; have GW141 := n8_; have GE141 := n9_; have NB118_141 := n10_; have NB141_118 := n11_; have NB119_141 := n12_; have NB141_119 := n13_; have NB120_141 := n14_; have NB141_120 := n15_; clear n0_ n1_ n2_ n3_ n4_ n5_ n6_ n7_ n8_ n9_ n10_ n11_ n12_ n13_ n14_ n15_; clear hb hbox hg; have hnb17 := NB141_118.out; have hnc17 := NB118_141.out; have hnb18 := NB141_119.out; have hnc18 := NB119_141.out; have hnb19 := NB141_120.out; have hnc19 := NB120_141.out; have hcz20_0 : w16.cell? ⟨gb141, 0, none⟩ = some (.int .u16 0) := (blk_cell BK141.out 0).trans rfl; have hcz20_1 : w16.cell? ⟨gb141, 1, none⟩ = some (.bool false) := (blk_cell BK141.out 1).trans rfl; have hcz20_2 : w16.cell? ⟨gb141, 2, none⟩ = some (.int .i64 0) := (blk_cell BK141.out 2).trans rfl; have hcz20_3 : w16.cell? ⟨gb141, 3, none⟩ = some (.bool false) := (blk_cell BK141.out 3).trans rfl; have hcz20_4 : w16.cell? ⟨gb141, 4, none⟩ = some (.bool false) := (blk_cell BK141.out 4).trans rfl; have hcz20_5 : w16.cell? ⟨gb141, 5, none⟩ = some (.bool false) := (blk_cell BK141.out 5).trans rfl; have hcz20_6 : w16.cell? ⟨gb141, 6, none⟩ = some (.bool false) := (blk_cell BK141.out 6).trans rfl; have hcz20_7 : w16.cell? ⟨gb141, 7, none⟩ = some (.int .i64 0) := (blk_cell BK141.out 7).trans rfl; have hcz20_8 : w16.cell? ⟨gb141, 8, none⟩ = some (.string (⟨#[]⟩ : ByteArray)) := (blk_cell BK141.out 8).trans rfl; have hcz20_9 : w16.cell? ⟨gb141, 9, none⟩ = some (.int .u16 0) := (blk_cell BK141.out 9).trans rfl; have hcz20_10 : w16.cell? ⟨gb141, 10, none⟩ = some (.slice none 0 0) := (blk_cell BK141.out 10).trans rfl; have hcz20_11 : w16.cell? ⟨gb141, 11, none⟩ = some (.slice none 0 0) := (blk_cell BK141.out 11).trans rfl; have hcz20_12 : w16.cell? ⟨gb141, 12, none⟩ = some (.slice none 0 0) := (blk_cell BK141.out 12).trans rfl; have hcz20_13 : w16.cell? ⟨gb141, 13, none⟩ = some (.int .i64 0) := (blk_cell BK141.out 13).trans rfl; have hfz20_0 := blk_frozen BK141.out 0; have hfz20_1 := blk_frozen BK141.out 1; have hfz20_2 := blk_frozen BK141.out 2; have hfz20_3 := blk_frozen BK141.out 3; have hfz20_4 := blk_frozen BK141.out 4; have hfz20_5 := blk_frozen BK141.out 5; have hfz20_6 := blk_frozen BK141.out 6; have hfz20_7 := blk_frozen BK141.out 7; have hfz20_8 := blk_frozen BK141.out 8; have hfz20_9 := blk_frozen BK141.out 9; have hfz20_10 := blk_frozen BK141.out 10; have hfz20_11 := blk_frozen BK141.out 11; have hfz20_12 := blk_frozen BK141.out 12; have hfz20_13 := blk_frozen BK141.out 13; obtain ⟨Ao21, co21, eo21⟩ := Kd.R_slice HO133.out; subst eo21; obtain ⟨Ao22, co22, eo22⟩ := Kd.R_slice HO136.out; subst eo22; obtain ⟨Ao23, co23, eo23⟩ := Kd.R_slice HO139.out; subst eo23; have hcz24_0 : w16.cell? ⟨gb119, 0, none⟩ = some (.int .u16 a1_0) := (blk_cell BK119.out 0).trans rfl; have hcz24_1 : w16.cell? ⟨gb119, 1, none⟩ = some (.bool a1_1) := (blk_cell BK119.out 1).trans rfl; have hcz24_2 : w16.cell? ⟨gb119, 2, none⟩ = some (.int .i64 a1_2) := (blk_cell BK119.out 2).trans rfl; have hcz24_3 : w16.cell? ⟨gb119, 3, none⟩ = some (.bool a1_3) := (blk_cell BK119.out 3).trans rfl; have hcz24_4 : w16.cell? ⟨gb119, 4, none⟩ = some (.bool a1_4) := (blk_cell BK119.out 4).trans rfl; have hcz24_5 : w16.cell? ⟨gb119, 5, none⟩ = some (.bool a1_5) := (blk_cell BK119.out 5).trans rfl; have hcz24_6 : w16.cell? ⟨gb119, 6, none⟩ = some (.bool a1_6) := (blk_cell BK119.out 6).trans rfl; have hcz24_7 : w16.cell? ⟨gb119, 7, none⟩ = some (.int .i64 a1_7) := (blk_cell BK119.out 7).trans rfl; have hcz24_8 : w16.cell? ⟨gb119, 8, none⟩ = some (.string a1_8) := (blk_cell BK119.out 8).trans rfl; have hcz24_9 : w16.cell? ⟨gb119, 9, none⟩ = some (.int .u16 a1_9) := (blk_cell BK119.out 9).trans rfl; have hcz24_10 : w16.cell? ⟨gb119, 10, none⟩ = some (.slice A1_10 l1_10.length c1_10) := (blk_cell BK119.out 10).trans rfl; have hcz24_11 : w16.cell? ⟨gb119, 11, none⟩ = some (.slice A1_11 l1_11.length c1_11) := (blk_cell BK119.out 11).trans rfl; have hcz24_12 : w16.cell? ⟨gb119, 12, none⟩ = some (.slice A1_12 l1_12.length c1_12) := (blk_cell BK119.out 12).trans rfl; have hcz24_13 : w16.cell? ⟨gb119, 13, none⟩ = some (.int .i64 a1_13) := (blk_cell BK119.out 13).trans rfl; have hfz24_0 := blk_frozen BK119.out 0; have hfz24_1 := blk_frozen BK119.out 1; have hfz24_2 := blk_frozen BK119.out 2; have hfz24_3 := blk_frozen BK119.out 3; have hfz24_4 := blk_frozen BK119.out 4; have hfz24_5 := blk_frozen BK119.out 5; have hfz24_6 := blk_frozen BK119.out 6; have hfz24_7 := blk_frozen BK119.out 7; have hfz24_8 := blk_frozen BK119.out 8; have hfz24_9 := blk_frozen BK119.out 9; have hfz24_10 := blk_frozen BK119.out 10; have hfz24_11 := blk_frozen BK119.out 11; have hfz24_12 := blk_frozen BK119.out 12; have hfz24_13 := blk_frozen BK119.out 13) | ((with_reducible refine gate_builtin (b := .append) (xs := #[.const (.slice none 0 0), .tmp 17]) rfl ?_); at_builtin; refine Kd.R_append_rows k43 (w0 := w) w.heap.size rfl (.const (.slice none 0 0)) (.tmp 17) 26 43 (.agg #[(.string ⟨#[]⟩), (.int .u16 0), (.int .u32 0), (.string ⟨#[]⟩)]) 40 rfl Try.underlying26 info43 rfl (by decide) (by omega) (.slice none 0 0) ([] : List (S43)) l1_10 _ _ _ (fun k_ => some k_ ≠ (.slice Ao21 t131.length co21 : Value).ownBlock ∧ some k_ ≠ (.slice Ao22 t134.length co22 : Value).ownBlock ∧ some k_ ≠ (.slice Ao23 t137.length co23 : Value).ownBlock) (fun _ => False) rfl rfl ?aO ?aR (fun _ _ h => h) (fun _ h => h.elim) ?aF ?aB ?aS ?aL ?_; (case aR => exact Kd.C_below HR1_10.out (by repeat (first | (with_reducible first | exact HB.out | apply below_alloc | apply pw_below_drewN | apply below_drew1 | refine below_set ?_ GE118.out | refine below_set ?_ GE119.out | refine below_set ?_ GE120.out | refine below_set ?_ GE141.out) | exact HB.out))); (case aB => exact (by repeat (first | (with_reducible first | exact HB.out | apply below_alloc | apply pw_below_drewN | apply below_drew1 | refine below_set ?_ GE118.out | refine below_set ?_ GE119.out | refine below_set ?_ GE120.out | refine below_set ?_ GE141.out) | exact HB.out))); (case aF => exact (fun k_ hk => ⟨Kd.fresh' (Kd.R_lt (by (with_reducible repeat (first | apply Kd.R_alloc | apply Kd.R_drewN | apply Kd.R_drew)); exact (Kd.R_mono (Kd.R_far (p := ⟨gb141, 3, none⟩) (Kd.R_far (p := ⟨gb141, 13, none⟩) (Kd.R_far (p := ⟨gb141, 12, none⟩) (Kd.R_far (p := ⟨gb141, 11, none⟩) (Kd.R_far (p := ⟨gb141, 10, none⟩) (Kd.R_far (p := ⟨gb141, 9, none⟩) (Kd.R_far (p := ⟨gb141, 8, none⟩) (Kd.R_far (p := ⟨gb141, 7, none⟩) (Kd.R_far (p := ⟨gb141, 6, none⟩) (Kd.R_far (p := ⟨gb141, 5, none⟩) (Kd.R_far (p := ⟨gb141, 4, none⟩) (Kd.R_far (p := ⟨gb141, 3, none⟩) (Kd.R_far (p := ⟨gb141, 2, none⟩) (Kd.R_far (p := ⟨gb141, 1, none⟩) (Kd.R_far (p := ⟨gb141, 0, none⟩) (Kd.R_types HO133.out BK141.out (by decide)) (fun _ hk => hk.2) (.int .u16 t121)) (fun _ hk => hk.2) (.bool t122)) (fun _ hk => hk.2) (.int .i64 t123)) (fun _ hk => hk.2) (.bool t124)) (fun _ hk => hk.2) (.bool t125)) (fun _ hk => hk.2) (.bool t126)) (fun _ hk => hk.2) (.bool t127)) (fun _ hk => hk.2) (.int .i64 t128)) (fun _ hk => hk.2) (.string t129)) (fun _ hk => hk.2) (.int .u16 t130)) (fun _ hk => hk.2) (.slice Ao21 t131.length co21)) (fun _ hk => hk.2) (.slice Ao22 t134.length co22)) (fun _ hk => hk.2) (.slice Ao23 t137.length co23)) (fun _ hk => hk.2) (.int .i64 t140)) (fun _ hk => hk.2) (.bool a1_3)) (fun _ h_ => h_.1)))) k_ hk, Kd.fresh' (Kd.R_lt (by (with_reducible repeat (first | apply Kd.R_alloc | apply Kd.R_drewN | apply Kd.R_drew)); exact (Kd.R_mono (Kd.R_far (p := ⟨gb141, 3, none⟩) (Kd.R_far (p := ⟨gb141, 13, none⟩) (Kd.R_far (p := ⟨gb141, 12, none⟩) (Kd.R_far (p := ⟨gb141, 11, none⟩) (Kd.R_far (p := ⟨gb141, 10, none⟩) (Kd.R_far (p := ⟨gb141, 9, none⟩) (Kd.R_far (p := ⟨gb141, 8, none⟩) (Kd.R_far (p := ⟨gb141, 7, none⟩) (Kd.R_far (p := ⟨gb141, 6, none⟩) (Kd.R_far (p := ⟨gb141, 5, none⟩) (Kd.R_far (p := ⟨gb141, 4, none⟩) (Kd.R_far (p := ⟨gb141, 3, none⟩) (Kd.R_far (p := ⟨gb141, 2, none⟩) (Kd.R_far (p := ⟨gb141, 1, none⟩) (Kd.R_far (p := ⟨gb141, 0, none⟩) (Kd.R_types HO136.out BK141.out (by decide)) (fun _ hk => hk.2) (.int .u16 t121)) (fun _ hk => hk.2) (.bool t122)) (fun _ hk => hk.2) (.int .i64 t123)) (fun _ hk => hk.2) (.bool t124)) (fun _ hk => hk.2) (.bool t125)) (fun _ hk => hk.2) (.bool t126)) (fun _ hk => hk.2) (.bool t127)) (fun _ hk => hk.2) (.int .i64 t128)) (fun _ hk => hk.2) (.string t129)) (fun _ hk => hk.2) (.int .u16 t130)) (fun _ hk => hk.2) (.slice Ao21 t131.length co21)) (fun _ hk => hk.2) (.slice Ao22 t134.length co22)) (fun _ hk => hk.2) (.slice Ao23 t137.length co23)) (fun _ hk => hk.2) (.int .i64 t140)) (fun _ hk => hk.2) (.bool a1_3)) (fun _ h_ => h_.1)))) k_ hk, Kd.fresh' (Kd.R_lt (by (with_reducible repeat (first | apply Kd.R_alloc | apply Kd.R_drewN | apply Kd.R_drew)); exact (Kd.R_mono (Kd.R_far (p := ⟨gb141, 3, none⟩) (Kd.R_far (p := ⟨gb141, 13, none⟩) (Kd.R_far (p := ⟨gb141, 12, none⟩) (Kd.R_far (p := ⟨gb141, 11, none⟩) (Kd.R_far (p := ⟨gb141, 10, none⟩) (Kd.R_far (p := ⟨gb141, 9, none⟩) (Kd.R_far (p := ⟨gb141, 8, none⟩) (Kd.R_far (p := ⟨gb141, 7, none⟩) (Kd.R_far (p := ⟨gb141, 6, none⟩) (Kd.R_far (p := ⟨gb141, 5, none⟩) (Kd.R_far (p := ⟨gb141, 4, none⟩) (Kd.R_far (p := ⟨gb141, 3, none⟩) (Kd.R_far (p := ⟨gb141, 2, none⟩) (Kd.R_far (p := ⟨gb141, 1, none⟩) (Kd.R_far (p := ⟨gb141, 0, none⟩) (Kd.R_types HO139.out BK141.out (by decide)) (fun _ hk => hk.2) (.int .u16 t121)) (fun _ hk => hk.2) (.bool t122)) (fun _ hk => hk.2) (.int .i64 t123)) (fun _ hk => hk.2) (.bool t124)) (fun _ hk => hk.2) (.bool t125)) (fun _ hk => hk.2) (.bool t126)) (fun _ hk => hk.2) (.bool t127)) (fun _ hk => hk.2) (.int .i64 t128)) (fun _ hk => hk.2) (.string t129)) (fun _ hk => hk.2) (.int .u16 t130)) (fun _ hk => hk.2) (.slice Ao21 t131.length co21)) (fun _ hk => hk.2) (.slice Ao22 t134.length co22)) (fun _ hk => hk.2) (.slice Ao23 t137.length co23)) (fun _ hk => hk.2) (.int .i64 t140)) (fun _ hk => hk.2) (.bool a1_3)) (fun _ h_ => h_.1)))) k_ hk⟩)); (case aO => exact ((Kd.R_nil _ _ _ _ (fun k_ => some k_ ≠ (.slice Ao21 t131.length co21 : Value).ownBlock ∧ some k_ ≠ (.slice Ao22 t134.length co22 : Value).ownBlock ∧ some k_ ≠ (.slice Ao23 t137.length co23 : Value).ownBlock)))); (case aS => exact (below_size (by repeat (first | (with_reducible first | exact HB.out | apply below_alloc | apply pw_below_drewN | apply below_drew1 | refine below_set ?_ GE118.out | refine below_set ?_ GE119.out | refine below_set ?_ GE120.out | refine below_set ?_ GE141.out) | exact HB.out)))); (case aL => have := LMc4.out; omega); intro v143 w25 ho hb hg hat; rw [← Ny142.out] at ho; have n0_ := Aside0.mk (blk_grown (g := gb118) (o := .cells #[.int .u16 a0_0, .bool a0_1, .int .i64 a0_2, .bool a0_3, .bool a0_4, .bool a0_5, .bool a0_6, .int .i64 a0_7, .string a0_8, .int .u16 a0_9, .slice A0_10 l0_10.length c0_10, .slice A0_11 l0_11.length c0_11, .slice A0_12 l0_12.length c0_12, .int .i64 a0_13] 58 (0, 0)) (by (with_reducible repeat (first | refine blk_drewN ?_ _ | refine blk_drew ?_ | refine blk_alloc ?_ _)); refine blk_far ?_ NB118_141.out _; (with_reducible repeat (first | refine blk_drewN ?_ _ | refine blk_drew ?_ | refine blk_alloc ?_ _)); refine blk_far ?_ NB118_141.out _; (with_reducible repeat (first | refine blk_drewN ?_ _ | refine blk_drew ?_ | refine blk_alloc ?_ _)); refine blk_far ?_ NB118_141.out _; (with_reducible repeat (first | refine blk_drewN ?_ _ | refine blk_drew ?_ | refine blk_alloc ?_ _)); refine blk_far ?_ NB118_141.out _; (with_reducible repeat (first | refine blk_drewN ?_ _ | refine blk_drew ?_ | refine blk_alloc ?_ _)); refine blk_far ?_ NB118_141.out _; (with_reducible repeat (first | refine blk_drewN ?_ _ | refine blk_drew ?_ | refine blk_alloc ?_ _)); refine blk_far ?_ NB118_141.out _; (with_reducible repeat (first | refine blk_drewN ?_ _ | refine blk_drew ?_ | refine blk_alloc ?_ _)); refine blk_far ?_ NB118_141.out _; (with_reducible repeat (first | refine blk_drewN ?_ _ | refine blk_drew ?_ | refine blk_alloc ?_ _)); refine blk_far ?_ NB118_141.out _; (with_reducible repeat (first | refine blk_drewN ?_ _ | refine blk_drew ?_ | refine blk_alloc ?_ _)); refine blk_far ?_ NB118_141.out _; (with_reducible repeat (first | refine blk_drewN ?_ _ | refine blk_drew ?_ | refine blk_alloc ?_ _)); refine blk_far ?_ NB118_141.out _; (with_reducible repeat (first | refine blk_drewN ?_ _ | refine blk_drew ?_ | refine blk_alloc ?_ _)); refine blk_far ?_ NB118_141.out _; (with_reducible repeat (first | refine blk_drewN ?_ _ | refine blk_drew ?_ | refine blk_alloc ?_ _)); refine blk_far ?_ NB118_141.out _; (with_reducible repeat (first | refine blk_drewN ?_ _ | refine blk_drew ?_ | refine blk_alloc ?_ _)); refine blk_far ?_ NB118_141.out _; (with_reducible repeat (first | refine blk_drewN ?_ _ | refine blk_drew ?_ | refine blk_alloc ?_ _)); refine blk_far ?_ NB118_141.out _; (with_reducible repeat (first | refine blk_drewN ?_ _ | refine blk_drew ?_ | refine blk_alloc ?_ _)); refine blk_far ?_ NB118_141.out _; (with_reducible repeat (first | refine blk_drewN ?_ _ | refine blk_drew ?_ | refine blk_alloc ?_ _)); exact BK118.out) hg (by simp [Value.ownBlock])); have n1_ := Aside0.mk (blk_grown (g := gb119) (o := .cells #[.int .u16 a1_0, .bool a1_1, .int .i64 a1_2, .bool a1_3, .bool a1_4, .bool a1_5, .bool a1_6, .int .i64 a1_7, .string a1_8, .int .u16 a1_9, .slice A1_10 l1_10.length c1_10, .slice A1_11 l1_11.length c1_11, .slice A1_12 l1_12.length c1_12, .int .i64 a1_13] 58 (0, 0)) (by (with_reducible repeat (first | refine blk_drewN ?_ _ | refine blk_drew ?_ | refine blk_alloc ?_ _)); refine blk_far ?_ NB119_141.out _; (with_reducible repeat (first | refine blk_drewN ?_ _ | refine blk_drew ?_ | refine blk_alloc ?_ _)); refine blk_far ?_ NB119_141.out _; (with_reducible repeat (first | refine blk_drewN ?_ _ | refine blk_drew ?_ | refine blk_alloc ?_ _)); refine blk_far ?_ NB119_141.out _; (with_reducible repeat (first | refine blk_drewN ?_ _ | refine blk_drew ?_ | refine blk_alloc ?_ _)); refine blk_far ?_ NB119_141.out _; (with_reducible repeat (first | refine blk_drewN ?_ _ | refine blk_drew ?_ | refine blk_alloc ?_ _)); refine blk_far ?_ NB119_141.out _; (with_reducible repeat (first | refine blk_drewN ?_ _ | refine blk_drew ?_ | refine blk_alloc ?_ _)); refine blk_far ?_ NB119_141.out _; (with_reducible repeat (first | refine blk_drewN ?_ _ | refine blk_drew ?_ | refine blk_alloc ?_ _)); refine blk_far ?_ NB119_141.out _; (with_reducible repeat (first | refine blk_drewN ?_ _ | refine blk_drew ?_ | refine blk_alloc ?_ _)); refine blk_far ?_ NB119_141.out _; (with_reducible repeat (first | refine blk_drewN ?_ _ | refine blk_drew ?_ | refine blk_alloc ?_ _)); refine blk_far ?_ NB119_141.out _; (with_reducible repeat (first | refine blk_drewN ?_ _ | refine blk_drew ?_ | refine blk_alloc ?_ _)); refine blk_far ?_ NB119_141.out _; (with_reducible repeat (first | refine blk_drewN ?_ _ | refine blk_drew ?_ | refine blk_alloc ?_ _)); refine blk_far ?_ NB119_141.out _; (with_reducible repeat (first | refine blk_drewN ?_ _ | refine blk_drew ?_ | refine blk_alloc ?_ _)); refine blk_far ?_ NB119_141.out _; (with_reducible repeat (first | refine blk_drewN ?_ _ | refine blk_drew ?_ | refine blk_alloc ?_ _)); refine blk_far ?_ NB119_141.out _; (with_reducible repeat (first | refine blk_drewN ?_ _ | refine blk_drew ?_ | refine blk_alloc ?_ _)); refine blk_far ?_ NB119_141.out _; (with_reducible repeat (first | refine blk_drewN ?_ _ | refine blk_drew ?_ | refine blk_alloc ?_ _)); refine blk_far ?_ NB119_141.out _; (with_reducible repeat (first | refine blk_drewN ?_ _ | refine blk_drew ?_ | refine blk_alloc ?_ _)); exact BK119.out) hg (by simp [Value.ownBlock])); have n2_ := Aside0.mk (blk_grown (g := gb120) (o := .cells #[.int .u16 0, .bool false, .int .i64 0, .bool false, .bool false, .bool false, .bool false, .int .i64 0, .string (⟨#[]⟩ : ByteArray), .int .u16 0, .slice none 0 0, .slice none 0 0, .slice none 0 0, .int .i64 0] 58 (0, 0)) (by (with_reducible repeat (first | refine blk_drewN ?_ _ | refine blk_drew ?_ | refine blk_alloc ?_ _)); refine blk_far ?_ NB120_141.out _; (with_reducible repeat (first | refine blk_drewN ?_ _ | refine blk_drew ?_ | refine blk_alloc ?_ _)); refine blk_far ?_ NB120_141.out _; (with_reducible repeat (first | refine blk_drewN ?_ _ | refine blk_drew ?_ | refine blk_alloc ?_ _)); refine blk_far ?_ NB120_141.out _; (with_reducible repeat (first | refine blk_drewN ?_ _ | refine blk_drew ?_ | refine blk_alloc ?_ _)); refine blk_far ?_ NB120_141.out _; (with_reducible repeat (first | refine blk_drewN ?_ _ | refine blk_drew ?_ | refine blk_alloc ?_ _)); refine blk_far ?_ NB120_141.out _; (with_reducible repeat (first | refine blk_drewN ?_ _ | refine blk_drew ?_ | refine blk_alloc ?_ _)); refine blk_far ?_ NB120_141.out _; (with_reducible repeat (first | refine blk_drewN ?_ _ | refine blk_drew ?_ | refine blk_alloc ?_ _)); refine blk_far ?_ NB120_141.out _; (with_reducible repeat (first | refine blk_drewN ?_ _ | refine blk_drew ?_ | refine blk_alloc ?_ _)); refine blk_far ?_ NB120_141.out _; (with_reducible repeat (first | refine blk_drewN ?_ _ | refine blk_drew ?_ | refine blk_alloc ?_ _)); refine blk_far ?_ NB120_141.out _; (with_reducible repeat (first | refine blk_drewN ?_ _ | refine blk_drew ?_ | refine blk_alloc ?_ _)); refine blk_far ?_ NB120_141.out _; (with_reducible repeat (first | refine blk_drewN ?_ _ | refine blk_drew ?_ | refine blk_alloc ?_ _)); refine blk_far ?_ NB120_141.out _; (with_reducible repeat (first | refine blk_drewN ?_ _ | refine blk_drew ?_ | refine blk_alloc ?_ _)); refine blk_far ?_ NB120_141.out _; (with_reducible repeat (first | refine blk_drewN ?_ _ | refine blk_drew ?_ | refine blk_alloc ?_ _)); refine blk_far ?_ NB120_141.out _; (with_reducible repeat (first | refine blk_drewN ?_ _ | refine blk_drew ?_ | refine blk_alloc ?_ _)); refine blk_far ?_ NB120_141.out _; (with_reducible repeat (first | refine blk_drewN ?_ _ | refine blk_drew ?_ | refine blk_alloc ?_ _)); refine blk_far ?_ NB120_141.out _; (with_reducible repeat (first | refine blk_drewN ?_ _ | refine blk_drew ?_ | refine blk_alloc ?_ _)); exact BK120.out) hg (by simp [Value.ownBlock])); have n3_ := Aside0.mk (Kd.R_after (Kd.R_apart_nil (by (with_reducible repeat (first | apply Kd.R_alloc | apply Kd.R_drewN | apply Kd.R_drew)); exact (Kd.R_mono (Kd.R_far (p := ⟨gb141, 3, none⟩) (Kd.R_far (p := ⟨gb141, 13, none⟩) (Kd.R_far (p := ⟨gb141, 12, none⟩) (Kd.R_far (p := ⟨gb141, 11, none⟩) (Kd.R_far (p := ⟨gb141, 10, none⟩) (Kd.R_far (p := ⟨gb141, 9, none⟩) (Kd.R_far (p := ⟨gb141, 8, none⟩) (Kd.R_far (p := ⟨gb141, 7, none⟩) (Kd.R_far (p := ⟨gb141, 6, none⟩) (Kd.R_far (p := ⟨gb141, 5, none⟩) (Kd.R_far (p := ⟨gb141, 4, none⟩) (Kd.R_far (p := ⟨gb141, 3, none⟩) (Kd.R_far (p := ⟨gb141, 2, none⟩) (Kd.R_far (p := ⟨gb141, 1, none⟩) (Kd.R_far (p := ⟨gb141, 0, none⟩) (Kd.R_types HO133.out BK141.out (by decide)) (fun _ hk => hk.2) (.int .u16 t121)) (fun _ hk => hk.2) (.bool t122)) (fun _ hk => hk.2) (.int .i64 t123)) (fun _ hk => hk.2) (.bool t124)) (fun _ hk => hk.2) (.bool t125)) (fun _ hk => hk.2) (.bool t126)) (fun _ hk => hk.2) (.bool t127)) (fun _ hk => hk.2) (.int .i64 t128)) (fun _ hk => hk.2) (.string t129)) (fun _ hk => hk.2) (.int .u16 t130)) (fun _ hk => hk.2) (.slice Ao21 t131.length co21)) (fun _ hk => hk.2) (.slice Ao22 t134.length co22)) (fun _ hk => hk.2) (.slice Ao23 t137.length co23)) (fun _ hk => hk.2) (.int .i64 t140)) (fun _ hk => hk.2) (.bool a1_3)) (fun _ h_ => h_.1)))) hg hat); have n4_ := Aside0.mk (Kd.R_after (Kd.R_apart_nil (by (with_reducible repeat (first | apply Kd.R_alloc | apply Kd.R_drewN | apply Kd.R_drew)); exact (Kd.R_mono (Kd.R_far (p := ⟨gb141, 3, none⟩) (Kd.R_far (p := ⟨gb141, 13, none⟩) (Kd.R_far (p := ⟨gb141, 12, none⟩) (Kd.R_far (p := ⟨gb141, 11, none⟩) (Kd.R_far (p := ⟨gb141, 10, none⟩) (Kd.R_far (p := ⟨gb141, 9, none⟩) (Kd.R_far (p := ⟨gb141, 8, none⟩) (Kd.R_far (p := ⟨gb141, 7, none⟩) (Kd.R_far (p := ⟨gb141, 6, none⟩) (Kd.R_far (p := ⟨gb141, 5, none⟩) (Kd.R_far (p := ⟨gb141, 4, none⟩) (Kd.R_far (p := ⟨gb141, 3, none⟩) (Kd.R_far (p := ⟨gb141, 2, none⟩) (Kd.R_far (p := ⟨gb141, 1, none⟩) (Kd.R_far (p := ⟨gb141, 0, none⟩) (Kd.R_types HO136.out BK141.out (by decide)) (fun _ hk => hk.2) (.int .u16 t121)) (fun _ hk => hk.2) (.bool t122)) (fun _ hk => hk.2) (.int .i64 t123)) (fun _ hk => hk.2) (.bool t124)) (fun _ hk => hk.2) (.bool t125)) (fun _ hk => hk.2) (.bool t126)) (fun _ hk => hk.2) (.bool t127)) (fun _ hk => hk.2) (.int .i64 t128)) (fun _ hk => hk.2) (.string t129)) (fun _ hk => hk.2) (.int .u16 t130)) (fun _ hk => hk.2) (.slice Ao21 t131.length co21)) (fun _ hk => hk.2) (.slice Ao22 t134.length co22)) (fun _ hk => hk.2) (.slice Ao23 t137.length co23)) (fun _ hk => hk.2) (.int .i64 t140)) (fun _ hk => hk.2) (.bool a1_3)) (fun _ h_ => h_.1)))) hg hat); have n5_ := Aside0.mk (Kd.R_after (Kd.R_apart_nil (by (with_reducible repeat (first | apply Kd.R_alloc | apply Kd.R_drewN | apply Kd.R_drew)); exact (Kd.R_mono (Kd.R_far (p := ⟨gb141, 3, none⟩) (Kd.R_far (p := ⟨gb141, 13, none⟩) (Kd.R_far (p := ⟨gb141, 12, none⟩) (Kd.R_far (p := ⟨gb141, 11, none⟩) (Kd.R_far (p := ⟨gb141, 10, none⟩) (Kd.R_far (p := ⟨gb141, 9, none⟩) (Kd.R_far (p := ⟨gb141, 8, none⟩) (Kd.R_far (p := ⟨gb141, 7, none⟩) (Kd.R_far (p := ⟨gb141, 6, none⟩) (Kd.R_far (p := ⟨gb141, 5, none⟩) (Kd.R_far (p := ⟨gb141, 4, none⟩) (Kd.R_far (p := ⟨gb141, 3, none⟩) (Kd.R_far (p := ⟨gb141, 2, none⟩) (Kd.R_far (p := ⟨gb141, 1, none⟩) (Kd.R_far (p := ⟨gb141, 0, none⟩) (Kd.R_types HO139.out BK141.out (by decide)) (fun _ hk => hk.2) (.int .u16 t121)) (fun _ hk => hk.2) (.bool t122)) (fun _ hk => hk.2) (.int .i64 t123)) (fun _ hk => hk.2) (.bool t124)) (fun _ hk => hk.2) (.bool t125)) (fun _ hk => hk.2) (.bool t126)) (fun _ hk => hk.2) (.bool t127)) (fun _ hk => hk.2) (.int .i64 t128)) (fun _ hk => hk.2) (.string t129)) (fun _ hk => hk.2) (.int .u16 t130)) (fun _ hk => hk.2) (.slice Ao21 t131.length co21)) (fun _ hk => hk.2) (.slice Ao22 t134.length co22)) (fun _ hk => hk.2) (.slice Ao23 t137.length co23)) (fun _ hk => hk.2) (.int .i64 t140)) (fun _ hk => hk.2) (.bool a1_3)) (fun _ h_ => h_.1)))) hg hat); have n6_ := Aside0.mk (blk_grown (g := gb141) (o := .cells #[.int .u16 t121, .bool t122, .int .i64 t123, .bool a1_3, .bool t125, .bool t126, .bool t127, .int .i64 t128, .string t129, .int .u16 t130, .slice Ao21 t131.length co21, .slice Ao22 t134.length co22, .slice Ao23 t137.length co23, .int .i64 t140] 58 (0, 0)) (by (with_reducible repeat (first | refine blk_drewN ?_ _ | refine blk_drew ?_ | refine blk_alloc ?_ _)); refine blk_put (cs := #[.int .u16 t121, .bool t122, .int .i64 t123, .bool t124, .bool t125, .bool t126, .bool t127, .int .i64 t128, .string t129, .int .u16 t130, .slice Ao21 t131.length co21, .slice Ao22 t134.length co22, .slice Ao23 t137.length co23, .int .i64 t140]) ?_ 3 _ rfl; (with_reducible repeat (first | refine blk_drewN ?_ _ | refine blk_drew ?_ | refine blk_alloc ?_ _)); refine blk_put (cs := #[.int .u16 t121, .bool t122, .int .i64 t123, .bool t124, .bool t125, .bool t126, .bool t127, .int .i64 t128, .string t129, .int .u16 t130, .slice Ao21 t131.length co21, .slice Ao22 t134.length co22, .slice Ao23 t137.length co23, .int .i64 0]) ?_ 13 _ rfl; (with_reducible repeat (first | refine blk_drewN ?_ _ | refine blk_drew ?_ | refine blk_alloc ?_ _)); refine blk_put (cs := #[.int .u16 t121, .bool t122, .int .i64 t123, .bool t124, .bool t125, .bool t126, .bool t127, .int .i64 t128, .string t129, .int .u16 t130, .slice Ao21 t131.length co21, .slice Ao22 t134.length co22, .slice none 0 0, .int .i64 0]) ?_ 12 _ rfl; (with_reducible repeat (first | refine blk_drewN ?_ _ | refine blk_drew ?_ | refine blk_alloc ?_ _)); refine blk_put (cs := #[.int .u16 t121, .bool t122, .int .i64 t123, .bool t124, .bool t125, .bool t126, .bool t127, .int .i64 t128, .string t129, .int .u16 t130, .slice Ao21 t131.length co21, .slice none 0 0, .slice none 0 0, .int .i64 0]) ?_ 11 _ rfl; (with_reducible repeat (first | refine blk_drewN ?_ _ | refine blk_drew ?_ | refine blk_alloc ?_ _)); refine blk_put (cs := #[.int .u16 t121, .bool t122, .int .i64 t123, .bool t124, .bool t125, .bool t126, .bool t127, .int .i64 t128, .string t129, .int .u16 t130, .slice none 0 0, .slice none 0 0, .slice none 0 0, .int .i64 0]) ?_ 10 _ rfl; (with_reducible repeat (first | refine blk_drewN ?_ _ | refine blk_drew ?_ | refine blk_alloc ?_ _)); refine blk_put (cs := #[.int .u16 t121, .bool t122, .int .i64 t123, .bool t124, .bool t125, .bool t126, .bool t127, .int .i64 t128, .string t129, .int .u16 0, .slice none 0 0, .slice none 0 0, .slice none 0 0, .int .i64 0]) ?_ 9 _ rfl; (with_reducible repeat (first | refine blk_drewN ?_ _ | refine blk_drew ?_ | refine blk_alloc ?_ _)); refine blk_put (cs := #[.int .u16 t121, .bool t122, .int .i64 t123, .bool t124, .bool t125, .bool t126, .bool t127, .int .i64 t128, .string (⟨#[]⟩ : ByteArray), .int .u16 0, .slice none 0 0, .slice none 0 0, .slice none 0 0, .int .i64 0]) ?_ 8 _ rfl; (with_reducible repeat (first | refine blk_drewN ?_ _ | refine blk_drew ?_ | refine blk_alloc ?_ _)); refine blk_put (cs := #[.int .u16 t121, .bool t122, .int .i64 t123, .bool t124, .bool t125, .bool t126, .bool t127, .int .i64 0, .string (⟨#[]⟩ : ByteArray), .int .u16 0, .slice none 0 0, .slice none 0 0, .slice none 0 0, .int .i64 0]) ?_ 7 _ rfl; (with_reducible repeat (first | refine blk_drewN ?_ _ | refine blk_drew ?_ | refine blk_alloc ?_ _)); refine blk_put (cs := #[.int .u16 t121, .bool t122, .int .i64 t123, .bool t124, .bool t125, .bool t126, .bool false, .int .i64 0, .string (⟨#[]⟩ : ByteArray), .int .u16 0, .slice none 0 0, .slice none 0 0, .slice none 0 0, .int .i64 0]) ?_ 6 _ rfl; (with_reducible repeat (first | refine blk_drewN ?_ _ | refine blk_drew ?_ | refine blk_alloc ?_ _)); refine blk_put (cs := #[.int .u16 t121, .bool t122, .int .i64 t123, .bool t124, .bool t125, .bool false, .bool false, .int .i64 0, .string (⟨#[]⟩ : ByteArray), .int .u16 0, .slice none 0 0, .slice none 0 0, .slice none 0 0, .int .i64 0]) ?_ 5 _ rfl; (with_reducible repeat (first | refine blk_drewN ?_ _ | refine blk_drew ?_ | refine blk_alloc ?_ _)); refine blk_put (cs := #[.int .u16 t121, .bool t122, .int .i64 t123, .bool t124, .bool false, .bool false, .bool false, .int .i64 0, .string (⟨#[]⟩ : ByteArray), .int .u16 0, .slice none 0 0, .slice none 0 0, .slice none 0 0, .int .i64 0]) ?_ 4 _ rfl; (with_reducible repeat (first | refine blk_drewN ?_ _ | refine blk_drew ?_ | refine blk_alloc ?_ _)); refine blk_put (cs := #[.int .u16 t121, .bool t122, .int .i64 t123, .bool false, .bool false, .bool false, .bool false, .int .i64 0, .string (⟨#[]⟩ : ByteArray), .int .u16 0, .slice none 0 0, .slice none 0 0, .slice none 0 0, .int .i64 0]) ?_ 3 _ rfl; (with_reducible repeat (first | refine blk_drewN ?_ _ | refine blk_drew ?_ | refine blk_alloc ?_ _)); refine blk_put (cs := #[.int .u16 t121, .bool t122, .int .i64 0, .bool false, .bool false, .bool false, .bool false, .int .i64 0, .string (⟨#[]⟩ : ByteArray), .int .u16 0, .slice none 0 0, .slice none 0 0, .slice none 0 0, .int .i64 0]) ?_ 2 _ rfl; (with_reducible repeat (first | refine blk_drewN ?_ _ | refine blk_drew ?_ | refine blk_alloc ?_ _)); refine blk_put (cs := #[.int .u16 t121, .bool false, .int .i64 0, .bool false, .bool false, .bool false, .bool false, .int .i64 0, .string (⟨#[]⟩ : ByteArray), .int .u16 0, .slice none 0 0, .slice none 0 0, .slice none 0 0, .int .i64 0]) ?_ 1 _ rfl; (with_reducible repeat (first | refine blk_drewN ?_ _ | refine blk_drew ?_ | refine blk_alloc ?_ _)); refine blk_put (cs := #[.int .u16 0, .bool false, .int .i64 0, .bool false, .bool false, .bool false, .bool false, .int .i64 0, .string (⟨#[]⟩ : ByteArray), .int .u16 0, .slice none 0 0, .slice none 0 0, .slice none 0 0, .int .i64 0]) ?_ 0 _ rfl; (with_reducible repeat (first | refine blk_drewN ?_ _ | refine blk_drew ?_ | refine blk_alloc ?_ _)); exact BK141.out) hg (by simp [Value.ownBlock])); have n7_ := Aside0.mk (hb); have n8_ := Aside0.mk (ho); clear BK118; clear BK119; clear BK120; clear HO133; clear HO136; clear HO139; clear BK141; clear HB; have BK118 := n0_; have BK119 := n1_; have BK120 := n2_; have HO133 := n3_; have HO136 := n4_; have HO139 := n5_; have BK141 := n6_; have HB := n7_; have HO144 := n8_; clear n0_ n1_ n2_ n3_ n4_ n5_ n6_ n7_ n8_; clear ho hb hg hat; obtain ⟨Ao26, co26, eo26⟩ := Kd.R_slice HO144.out; subst eo26; have hcz27_0 : w25.cell? ⟨gb141, 0, none⟩ = some (.int .u16 t121) := (blk_cell BK141.out 0).trans rfl; have hcz27_1 : w25.cell? ⟨gb141, 1, none⟩ = some (.bool t122) := (blk_cell BK141.out 1).trans rfl; have hcz27_2 : w25.cell? ⟨gb141, 2, none⟩ = some (.int .i64 t123) := (blk_cell BK141.out 2).trans rfl; have hcz27_3 : w25.cell? ⟨gb141, 3, none⟩ = some (.bool a1_3) := (blk_cell BK141.out 3).trans rfl; have hcz27_4 : w25.cell? ⟨gb141, 4, none⟩ = some (.bool t125) := (blk_cell BK141.out 4).trans rfl; have hcz27_5 : w25.cell? ⟨gb141, 5, none⟩ = some (.bool t126) := (blk_cell BK141.out 5).trans rfl; have hcz27_6 : w25.cell? ⟨gb141, 6, none⟩ = some (.bool t127) := (blk_cell BK141.out 6).trans rfl; have hcz27_7 : w25.cell? ⟨gb141, 7, none⟩ = some (.int .i64 t128) := (blk_cell BK141.out 7).trans rfl; have hcz27_8 : w25.cell? ⟨gb141, 8, none⟩ = some (.string t129) := (blk_cell BK141.out 8).trans rfl; have hcz27_9 : w25.cell? ⟨gb141, 9, none⟩ = some (.int .u16 t130) := (blk_cell BK141.out 9).trans rfl; have hcz27_10 : w25.cell? ⟨gb141, 10, none⟩ = some (.slice Ao21 t131.length co21) := (blk_cell BK141.out 10).trans rfl; have hcz27_11 : w25.cell? ⟨gb141, 11, none⟩ = some (.slice Ao22 t134.length co22) := (blk_cell BK141.out 11).trans rfl; have hcz27_12 : w25.cell? ⟨gb141, 12, none⟩ = some (.slice Ao23 t137.length co23) := (blk_cell BK141.out 12).trans rfl; have hcz27_13 : w25.cell? ⟨gb141, 13, none⟩ = some (.int .i64 t140) := (blk_cell BK141.out 13).trans rfl; have hfz27_0 := blk_frozen BK141.out 0; have hfz27_1 := blk_frozen BK141.out 1; have hfz27_2 := blk_frozen BK141.out 2; have hfz27_3 := blk_frozen BK141.out 3; have hfz27_4 := blk_frozen BK141.out 4; have hfz27_5 := blk_frozen BK141.out 5; have hfz27_6 := blk_frozen BK141.out 6; have hfz27_7 := blk_frozen BK141.out 7; have hfz27_8 := blk_frozen BK141.out 8; have hfz27_9 := blk_frozen BK141.out 9; have hfz27_10 := blk_frozen BK141.out 10; have hfz27_11 := blk_frozen BK141.out 11; have hfz27_12 := blk_frozen BK141.out 12; have hfz27_13 := blk_frozen BK141.out 13; have hcz28_0 : w25.cell? ⟨gb119, 0, none⟩ = some (.int .u16 a1_0) := (blk_cell BK119.out 0).trans rfl; have hcz28_1 : w25.cell? ⟨gb119, 1, none⟩ = some (.bool a1_1) := (blk_cell BK119.out 1).trans rfl; have hcz28_2 : w25.cell? ⟨gb119, 2, none⟩ = some (.int .i64 a1_2) := (blk_cell BK119.out 2).trans rfl; have hcz28_3 : w25.cell? ⟨gb119, 3, none⟩ = some (.bool a1_3) := (blk_cell BK119.out 3).trans rfl; have hcz28_4 : w25.cell? ⟨gb119, 4, none⟩ = some (.bool a1_4) := (blk_cell BK119.out 4).trans rfl; have hcz28_5 : w25.cell? ⟨gb119, 5, none⟩ = some (.bool a1_5) := (blk_cell BK119.out 5).trans rfl; have hcz28_6 : w25.cell? ⟨gb119, 6, none⟩ = some (.bool a1_6) := (blk_cell BK119.out 6).trans rfl; have hcz28_7 : w25.cell? ⟨gb119, 7, none⟩ = some (.int .i64 a1_7) := (blk_cell BK119.out 7).trans rfl; have hcz28_8 : w25.cell? ⟨gb119, 8, none⟩ = some (.string a1_8) := (blk_cell BK119.out 8).trans rfl; have hcz28_9 : w25.cell? ⟨gb119, 9, none⟩ = some (.int .u16 a1_9) := (blk_cell BK119.out 9).trans rfl; have hcz28_10 : w25.cell? ⟨gb119, 10, none⟩ = some (.slice A1_10 l1_10.length c1_10) := (blk_cell BK119.out 10).trans rfl; have hcz28_11 : w25.cell? ⟨gb119, 11, none⟩ = some (.slice A1_11 l1_11.length c1_11) := (blk_cell BK119.out 11).trans rfl; have hcz28_12 : w25.cell? ⟨gb119, 12, none⟩ = some (.slice A1_12 l1_12.length c1_12) := (blk_cell BK119.out 12).trans rfl; have hcz28_13 : w25.cell? ⟨gb119, 13, none⟩ = some (.int .i64 a1_13) := (blk_cell BK119.out 13).trans rfl; have hfz28_0 := blk_frozen BK119.out 0; have hfz28_1 := blk_frozen BK119.out 1; have hfz28_2 := blk_frozen BK119.out 2; have hfz28_3 := blk_frozen BK119.out 3; have hfz28_4 := blk_frozen BK119.out 4; have hfz28_5 := blk_frozen BK119.out 5; have hfz28_6 := blk_frozen BK119.out 6; have hfz28_7 := blk_frozen BK119.out 7; have hfz28_8 := blk_frozen BK119.out 8; have hfz28_9 := blk_frozen BK119.out 9; have hfz28_10 := blk_frozen BK119.out 10; have hfz28_11 := blk_frozen BK119.out 11; have hfz28_12 := blk_frozen BK119.out 12; have hfz28_13 := blk_frozen BK119.out 13) | ((with_reducible refine gate_builtin (b := .append) (xs := #[.const (.slice none 0 0), .tmp 21]) rfl ?_); at_builtin; refine Kd.R_append_rows k43 (w0 := w) w.heap.size rfl (.const (.slice none 0 0)) (.tmp 21) 26 43 (.agg #[(.string ⟨#[]⟩), (.int .u16 0), (.int .u32 0), (.string ⟨#[]⟩)]) 40 rfl Try.underlying26 info43 rfl (by decide) (by omega) (.slice none 0 0) ([] : List (S43)) l1_11 _ _ _ (fun k_ => some k_ ≠ (.slice Ao21 t131.length co21 : Value).ownBlock ∧ some k_ ≠ (.slice Ao22 t134.length co22 : Value).ownBlock ∧ some k_ ≠ (.slice Ao23 t137.length co23 : Value).ownBlock ∧ some k_ ≠ (.slice Ao26 y142.length co26 : Value).ownBlock) (fun _ => False) rfl rfl ?aO ?aR (fun _ _ h => h) (fun _ h => h.elim) ?aF ?aB ?aS ?aL ?_; (case aR => exact Kd.C_below HR1_11.out (by repeat (first | (with_reducible first | exact HB.out | apply below_alloc | apply pw_below_drewN | apply below_drew1 | refine below_set ?_ GE118.out | refine below_set ?_ GE119.out | refine below_set ?_ GE120.out | refine below_set ?_ GE141.out) | exact HB.out))); (case aB => exact (by repeat (first | (with_reducible first | exact HB.out | apply below_alloc | apply pw_below_drewN | apply below_drew1 | refine below_set ?_ GE118.out | refine below_set ?_ GE119.out | refine below_set ?_ GE120.out | refine below_set ?_ GE141.out) | exact HB.out))); (case aF => exact (fun k_ hk => ⟨Kd.fresh' (Kd.R_lt (by (with_reducible repeat (first | apply Kd.R_alloc | apply Kd.R_drewN | apply Kd.R_drew)); exact (Kd.R_mono (Kd.R_far (p := ⟨gb141, 10, none⟩) (Kd.R_types HO133.out BK141.out (by decide)) (fun _ hk => hk.2) (.slice Ao26 y142.length co26)) (fun _ h_ => h_.1)))) k_ hk, Kd.fresh' (Kd.R_lt (by (with_reducible repeat (first | apply Kd.R_alloc | apply Kd.R_drewN | apply Kd.R_drew)); exact (Kd.R_mono (Kd.R_far (p := ⟨gb141, 10, none⟩) (Kd.R_types HO136.out BK141.out (by decide)) (fun _ hk => hk.2) (.slice Ao26 y142.length co26)) (fun _ h_ => h_.1)))) k_ hk, Kd.fresh' (Kd.R_lt (by (with_reducible repeat (first | apply Kd.R_alloc | apply Kd.R_drewN | apply Kd.R_drew)); exact (Kd.R_mono (Kd.R_far (p := ⟨gb141, 10, none⟩) (Kd.R_types HO139.out BK141.out (by decide)) (fun _ hk => hk.2) (.slice Ao26 y142.length co26)) (fun _ h_ => h_.1)))) k_ hk, Kd.fresh' (Kd.R_lt (by (with_reducible repeat (first | apply Kd.R_alloc | apply Kd.R_drewN | apply Kd.R_drew)); exact (Kd.R_mono (Kd.R_far (p := ⟨gb141, 10, none⟩) (Kd.R_types HO144.out BK141.out (by decide)) (fun _ hk => hk.2) (.slice Ao26 y142.length co26)) (fun _ h_ => h_.1)))) k_ hk⟩)); (case aO => exact ((Kd.R_nil _ _ _ _ (fun k_ => some k_ ≠ (.slice Ao21 t131.length co21 : Value).ownBlock ∧ some k_ ≠ (.slice Ao22 t134.length co22 : Value).ownBlock ∧ some k_ ≠ (.slice Ao23 t137.length co23 : Value).ownBlock ∧ some k_ ≠ (.slice Ao26 y142.length co26 : Value).ownBlock)))); (case aS => exact (below_size (by repeat (first | (with_reducible first | exact HB.out | apply below_alloc | apply pw_below_drewN | apply below_drew1 | refine below_set ?_ GE118.out | refine below_set ?_ GE119.out | refine below_set ?_ GE120.out | refine below_set ?_ GE141.out) | exact HB.out)))); (case aL => have := LMc5.out; omega); intro v146 w29 ho hb hg hat; rw [← Ny145.out] at ho; have n0_ := Aside0.mk (blk_grown (g := gb118) (o := .cells #[.int .u16 a0_0, .bool a0_1, .int .i64 a0_2, .bool a0_3, .bool a0_4, .bool a0_5, .bool a0_6, .int .i64 a0_7, .string a0_8, .int .u16 a0_9, .slice A0_10 l0_10.length c0_10, .slice A0_11 l0_11.length c0_11, .slice A0_12 l0_12.length c0_12, .int .i64 a0_13] 58 (0, 0)) (by (with_reducible repeat (first | refine blk_drewN ?_ _ | refine blk_drew ?_ | refine blk_alloc ?_ _)); refine blk_far ?_ NB118_141.out _; (with_reducible repeat (first | refine blk_drewN ?_ _ | refine blk_drew ?_ | refine blk_alloc ?_ _)); exact BK118.out) hg (by simp [Value.ownBlock])); have n1_ := Aside0.mk (blk_grown (g := gb119) (o := .cells #[.int .u16 a1_0, .bool a1_1, .int .i64 a1_2, .bool a1_3, .bool a1_4, .bool a1_5, .bool a1_6, .int .i64 a1_7, .string a1_8, .int .u16 a1_9, .slice A1_10 l1_10.length c1_10, .slice A1_11 l1_11.length c1_11, .slice A1_12 l1_12.length c1_12, .int .i64 a1_13] 58 (0, 0)) (by (with_reducible repeat (first | refine blk_drewN ?_ _ | refine blk_drew ?_ | refine blk_alloc ?_ _)); refine blk_far ?_ NB119_141.out _; (with_reducible repeat (first | refine blk_drewN ?_ _ | refine blk_drew ?_ | refine blk_alloc ?_ _)); exact BK119.out) hg (by simp [Value.ownBlock])); have n2_ := Aside0.mk (blk_grown (g := gb120) (o := .cells #[.int .u16 0, .bool false, .int .i64 0, .bool false, .bool false, .bool false, .bool false, .int .i64 0, .string (⟨#[]⟩ : ByteArray), .int .u16 0, .slice none 0 0, .slice none 0 0, .slice none 0 0, .int .i64 0] 58 (0, 0)) (by (with_reducible repeat (first | refine blk_drewN ?_ _ | refine blk_drew ?_ | refine blk_alloc ?_ _)); refine blk_far ?_ NB120_141.out _; (with_reducible repeat (first | refine blk_drewN ?_ _ | refine blk_drew ?_ | refine blk_alloc ?_ _)); exact BK120.out) hg (by simp [Value.ownBlock])); have n3_ := Aside0.mk (Kd.R_after (Kd.R_apart_nil (by (with_reducible repeat (first | apply Kd.R_alloc | apply Kd.R_drewN | apply Kd.R_drew)); exact (Kd.R_mono (Kd.R_far (p := ⟨gb141, 10, none⟩) (Kd.R_types HO133.out BK141.out (by decide)) (fun _ hk => hk.2) (.slice Ao26 y142.length co26)) (fun _ h_ => h_.1)))) hg hat); have n4_ := Aside0.mk (Kd.R_after (Kd.R_apart_nil (by (with_reducible repeat (first | apply Kd.R_alloc | apply Kd.R_drewN | apply Kd.R_drew)); exact (Kd.R_mono (Kd.R_far (p := ⟨gb141, 10, none⟩) (Kd.R_types HO136.out BK141.out (by decide)) (fun _ hk => hk.2) (.slice Ao26 y142.length co26)) (fun _ h_ => h_.1)))) hg hat); have n5_ := Aside0.mk (Kd.R_after (Kd.R_apart_nil (by (with_reducible repeat (first | apply Kd.R_alloc | apply Kd.R_drewN | apply Kd.R_drew)); exact (Kd.R_mono (Kd.R_far (p := ⟨gb141, 10, none⟩) (Kd.R_types HO139.out BK141.out (by decide)) (fun _ hk => hk.2) (.slice Ao26 y142.length co26)) (fun _ h_ => h_.1)))) hg hat); have n6_ := Aside0.mk (blk_grown (g := gb141) (o := .cells #[.int .u16 t121, .bool t122, .int .i64 t123, .bool a1_3, .bool t125, .bool t126, .bool t127, .int .i64 t128, .string t129, .int .u16 t130, .slice Ao26 y142.length co26, .slice Ao22 t134.length co22, .slice Ao23 t137.length co23, .int .i64 t140] 58 (0, 0)) (by (with_reducible repeat (first | refine blk_drewN ?_ _ | refine blk_drew ?_ | refine blk_alloc ?_ _)); refine blk_put (cs := #[.int .u16 t121, .bool t122, .int .i64 t123, .bool a1_3, .bool t125, .bool t126, .bool t127, .int .i64 t128, .string t129, .int .u16 t130, .slice Ao21 t131.length co21, .slice Ao22 t134.length co22, .slice Ao23 t137.length co23, .int .i64 t140]) ?_ 10 _ rfl; (with_reducible repeat (first | refine blk_drewN ?_ _ | refine blk_drew ?_ | refine blk_alloc ?_ _)); exact BK141.out) hg (by simp [Value.ownBlock])); have n7_ := Aside0.mk (Kd.R_after (Kd.R_apart_nil (by (with_reducible repeat (first | apply Kd.R_alloc | apply Kd.R_drewN | apply Kd.R_drew)); exact (Kd.R_mono (Kd.R_far (p := ⟨gb141, 10, none⟩) (Kd.R_types HO144.out BK141.out (by decide)) (fun _ hk => hk.2) (.slice Ao26 y142.length co26)) (fun _ h_ => h_.1)))) hg hat); have n8_ := Aside0.mk (hb); have n9_ := Aside0.mk (ho); clear BK118; clear BK119; clear BK120; clear HO133; clear HO136; clear HO139; clear BK141; clear HO144; clear HB; have BK118 := n0_; have BK119 := n1_; have BK120 := n2_; have HO133 := n3_; have HO136 := n4_; have HO139 := n5_; have BK141 := n6_; have HO144 := n7_; have HB := n8_; have HO147 := n9_; clear n0_ n1_ n2_ n3_ n4_ n5_ n6_ n7_ n8_ n9_; clear ho hb hg hat; obtain ⟨Ao30, co30, eo30⟩ := Kd.R_slice HO147.out; subst eo30; have hcz31_0 : w29.cell? ⟨gb141, 0, none⟩ = some (.int .u16 t121) := (blk_cell BK141.out 0).trans rfl; have hcz31_1 : w29.cell? ⟨gb141, 1, none⟩ = some (.bool t122) := (blk_cell BK141.out 1).trans rfl; have hcz31_2 : w29.cell? ⟨gb141, 2, none⟩ = some (.int .i64 t123) := (blk_cell BK141.out 2).trans rfl; have hcz31_3 : w29.cell? ⟨gb141, 3, none⟩ = some (.bool a1_3) := (blk_cell BK141.out 3).trans rfl; have hcz31_4 : w29.cell? ⟨gb141, 4, none⟩ = some (.bool t125) := (blk_cell BK141.out 4).trans rfl; have hcz31_5 : w29.cell? ⟨gb141, 5, none⟩ = some (.bool t126) := (blk_cell BK141.out 5).trans rfl; have hcz31_6 : w29.cell? ⟨gb141, 6, none⟩ = some (.bool t127) := (blk_cell BK141.out 6).trans rfl; have hcz31_7 : w29.cell? ⟨gb141, 7, none⟩ = some (.int .i64 t128) := (blk_cell BK141.out 7).trans rfl; have hcz31_8 : w29.cell? ⟨gb141, 8, none⟩ = some (.string t129) := (blk_cell BK141.out 8).trans rfl; have hcz31_9 : w29.cell? ⟨gb141, 9, none⟩ = some (.int .u16 t130) := (blk_cell BK141.out 9).trans rfl; have hcz31_10 : w29.cell? ⟨gb141, 10, none⟩ = some (.slice Ao26 y142.length co26) := (blk_cell BK141.out 10).trans rfl; have hcz31_11 : w29.cell? ⟨gb141, 11, none⟩ = some (.slice Ao22 t134.length co22) := (blk_cell BK141.out 11).trans rfl; have hcz31_12 : w29.cell? ⟨gb141, 12, none⟩ = some (.slice Ao23 t137.length co23) := (blk_cell BK141.out 12).trans rfl; have hcz31_13 : w29.cell? ⟨gb141, 13, none⟩ = some (.int .i64 t140) := (blk_cell BK141.out 13).trans rfl; have hfz31_0 := blk_frozen BK141.out 0; have hfz31_1 := blk_frozen BK141.out 1; have hfz31_2 := blk_frozen BK141.out 2; have hfz31_3 := blk_frozen BK141.out 3; have hfz31_4 := blk_frozen BK141.out 4; have hfz31_5 := blk_frozen BK141.out 5; have hfz31_6 := blk_frozen BK141.out 6; have hfz31_7 := blk_frozen BK141.out 7; have hfz31_8 := blk_frozen BK141.out 8; have hfz31_9 := blk_frozen BK141.out 9; have hfz31_10 := blk_frozen BK141.out 10; have hfz31_11 := blk_frozen BK141.out 11; have hfz31_12 := blk_frozen BK141.out 12; have hfz31_13 := blk_frozen BK141.out 13; have hcz32_0 : w29.cell? ⟨gb119, 0, none⟩ = some (.int .u16 a1_0) := (blk_cell BK119.out 0).trans rfl; have hcz32_1 : w29.cell? ⟨gb119, 1, none⟩ = some (.bool a1_1) := (blk_cell BK119.out 1).trans rfl; have hcz32_2 : w29.cell? ⟨gb119, 2, none⟩ = some (.int .i64 a1_2) := (blk_cell BK119.out 2).trans rfl; have hcz32_3 : w29.cell? ⟨gb119, 3, none⟩ = some (.bool a1_3) := (blk_cell BK119.out 3).trans rfl; have hcz32_4 : w29.cell? ⟨gb119, 4, none⟩ = some (.bool a1_4) := (blk_cell BK119.out 4).trans rfl; have hcz32_5 : w29.cell? ⟨gb119, 5, none⟩ = some (.bool a1_5) := (blk_cell BK119.out 5).trans rfl; have hcz32_6 : w29.cell? ⟨gb119, 6, none⟩ = some (.bool a1_6) := (blk_cell BK119.out 6).trans rfl; have hcz32_7 : w29.cell? ⟨gb119, 7, none⟩ = some (.int .i64 a1_7) := (blk_cell BK119.out 7).trans rfl; have hcz32_8 : w29.cell? ⟨gb119, 8, none⟩ = some (.string a1_8) := (blk_cell BK119.out 8).trans rfl; have hcz32_9 : w29.cell? ⟨gb119, 9, none⟩ = some (.int .u16 a1_9) := (blk_cell BK119.out 9).trans rfl; have hcz32_10 : w29.cell? ⟨gb119, 10, none⟩ = some (.slice A1_10 l1_10.length c1_10) := (blk_cell BK119.out 10).trans rfl; have hcz32_11 : w29.cell? ⟨gb119, 11, none⟩ = some (.slice A1_11 l1_11.length c1_11) := (blk_cell BK119.out 11).trans rfl; have hcz32_12 : w29.cell? ⟨gb119, 12, none⟩ = some (.slice A1_12 l1_12.length c1_12) := (blk_cell BK119.out 12).trans rfl; have hcz32_13 : w29.cell? ⟨gb119, 13, none⟩ = some (.int .i64 a1_13) := (blk_cell BK119.out 13).trans rfl; have hfz32_0 := blk_frozen BK119.out 0; have hfz32_1 := blk_frozen BK119.out 1; have hfz32_2 := blk_frozen BK119.out 2; have hfz32_3 := blk_frozen BK119.out 3; have hfz32_4 := blk_frozen BK119.out 4; have hfz32_5 := blk_frozen BK119.out 5; have hfz32_6 := blk_frozen BK119.out 6; have hfz32_7 := blk_frozen BK119.out 7; have hfz32_8 := blk_frozen BK119.out 8; have hfz32_9 := blk_frozen BK119.out 9; have hfz32_10 := blk_frozen BK119.out 10; have hfz32_11 := blk_frozen BK119.out 11; have hfz32_12 := blk_frozen BK119.out 12; have hfz32_13 := blk_frozen BK119.out 13) | ((with_reducible refine gate_builtin (b := .append) (xs := #[.const (.slice none 0 0), .tmp 25]) rfl ?_); at_builtin; refine Kd.R_append_rows k43 (w0 := w) w.heap.size rfl (.const (.slice none 0 0)) (.tmp 25) 26 43 (.agg #[(.string ⟨#[]⟩), (.int .u16 0), (.int .u32 0), (.string ⟨#[]⟩)]) 40 rfl Try.underlying26 info43 rfl (by decide) (by omega) (.slice none 0 0) ([] : List (S43)) l1_12 _ _ _ (fun k_ => some k_ ≠ (.slice Ao21 t131.length co21 : Value).ownBlock ∧ some k_ ≠ (.slice Ao22 t134.length co22 : Value).ownBlock ∧ some k_ ≠ (.slice Ao23 t137.length co23 : Value).ownBlock ∧ some k_ ≠ (.slice Ao26 y142.length co26 : Value).ownBlock ∧ some k_ ≠ (.slice Ao30 y145.length co30 : Value).ownBlock) (fun _ => False) rfl rfl ?aO ?aR (fun _ _ h => h) (fun _ h => h.elim) ?aF ?aB ?aS ?aL ?_; (case aR => exact Kd.C_below HR1_12.out (by repeat (first | (with_reducible first | exact HB.out | apply below_alloc | apply pw_below_drewN | apply below_drew1 | refine below_set ?_ GE118.out | refine below_set ?_ GE119.out | refine below_set ?_ GE120.out | refine below_set ?_ GE141.out) | exact HB.out))); (case aB => exact (by repeat (first | (with_reducible first | exact HB.out | apply below_alloc | apply pw_below_drewN | apply below_drew1 | refine below_set ?_ GE118.out | refine below_set ?_ GE119.out | refine below_set ?_ GE120.out | refine below_set ?_ GE141.out) | exact HB.out))); (case aF => exact (fun k_ hk => ⟨Kd.fresh' (Kd.R_lt (by (with_reducible repeat (first | apply Kd.R_alloc | apply Kd.R_drewN | apply Kd.R_drew)); exact (Kd.R_mono (Kd.R_far (p := ⟨gb141, 11, none⟩) (Kd.R_types HO133.out BK141.out (by decide)) (fun _ hk => hk.2) (.slice Ao30 y145.length co30)) (fun _ h_ => h_.1)))) k_ hk, Kd.fresh' (Kd.R_lt (by (with_reducible repeat (first | apply Kd.R_alloc | apply Kd.R_drewN | apply Kd.R_drew)); exact (Kd.R_mono (Kd.R_far (p := ⟨gb141, 11, none⟩) (Kd.R_types HO136.out BK141.out (by decide)) (fun _ hk => hk.2) (.slice Ao30 y145.length co30)) (fun _ h_ => h_.1)))) k_ hk, Kd.fresh' (Kd.R_lt (by (with_reducible repeat (first | apply Kd.R_alloc | apply Kd.R_drewN | apply Kd.R_drew)); exact (Kd.R_mono (Kd.R_far (p := ⟨gb141, 11, none⟩) (Kd.R_types HO139.out BK141.out (by decide)) (fun _ hk => hk.2) (.slice Ao30 y145.length co30)) (fun _ h_ => h_.1)))) k_ hk, Kd.fresh' (Kd.R_lt (by (with_reducible repeat (first | apply Kd.R_alloc | apply Kd.R_drewN | apply Kd.R_drew)); exact (Kd.R_mono (Kd.R_far (p := ⟨gb141, 11, none⟩) (Kd.R_types HO144.out BK141.out (by decide)) (fun _ hk => hk.2) (.slice Ao30 y145.length co30)) (fun _ h_ => h_.1)))) k_ hk, Kd.fresh' (Kd.R_lt (by (with_reducible repeat (first | apply Kd.R_alloc | apply Kd.R_drewN | apply Kd.R_drew)); exact (Kd.R_mono (Kd.R_far (p := ⟨gb141, 11, none⟩) (Kd.R_types HO147.out BK141.out (by decide)) (fun _ hk => hk.2) (.slice Ao30 y145.length co30)) (fun _ h_ => h_.1)))) k_ hk⟩)); (case aO => exact ((Kd.R_nil _ _ _ _ (fun k_ => some k_ ≠ (.slice Ao21 t131.length co21 : Value).ownBlock ∧ some k_ ≠ (.slice Ao22 t134.length co22 : Value).ownBlock ∧ some k_ ≠ (.slice Ao23 t137.length co23 : Value).ownBlock ∧ some k_ ≠ (.slice Ao26 y142.length co26 : Value).ownBlock ∧ some k_ ≠ (.slice Ao30 y145.length co30 : Value).ownBlock)))); (case aS => exact (below_size (by repeat (first | (with_reducible first | exact HB.out | apply below_alloc | apply pw_below_drewN | apply below_drew1 | refine below_set ?_ GE118.out | refine below_set ?_ GE119.out | refine below_set ?_ GE120.out | refine below_set ?_ GE141.out) | exact HB.out)))); (case aL => have := LMc6.out; omega); intro v149 w33 ho hb hg hat; rw [← Ny148.out] at ho; have n0_ := Aside0.mk (blk_grown (g := gb118) (o := .cells #[.int .u16 a0_0, .bool a0_1, .int .i64 a0_2, .bool a0_3, .bool a0_4, .bool a0_5, .bool a0_6, .int .i64 a0_7, .string a0_8, .int .u16 a0_9, .slice A0_10 l0_10.length c0_10, .slice A0_11 l0_11.length c0_11, .slice A0_12 l0_12.length c0_12, .int .i64 a0_13] 58 (0, 0)) (by (with_reducible repeat (first | refine blk_drewN ?_ _ | refine blk_drew ?_ | refine blk_alloc ?_ _)); refine blk_far ?_ NB118_141.out _; (with_reducible repeat (first | refine blk_drewN ?_ _ | refine blk_drew ?_ | refine blk_alloc ?_ _)); exact BK118.out) hg (by simp [Value.ownBlock])); have n1_ := Aside0.mk (blk_grown (g := gb119) (o := .cells #[.int .u16 a1_0, .bool a1_1, .int .i64 a1_2, .bool a1_3, .bool a1_4, .bool a1_5, .bool a1_6, .int .i64 a1_7, .string a1_8, .int .u16 a1_9, .slice A1_10 l1_10.length c1_10, .slice A1_11 l1_11.length c1_11, .slice A1_12 l1_12.length c1_12, .int .i64 a1_13] 58 (0, 0)) (by (with_reducible repeat (first | refine blk_drewN ?_ _ | refine blk_drew ?_ | refine blk_alloc ?_ _)); refine blk_far ?_ NB119_141.out _; (with_reducible repeat (first | refine blk_drewN ?_ _ | refine blk_drew ?_ | refine blk_alloc ?_ _)); exact BK119.out) hg (by simp [Value.ownBlock])); have n2_ := Aside0.mk (blk_grown (g := gb120) (o := .cells #[.int .u16 0, .bool false, .int .i64 0, .bool false, .bool false, .bool false, .bool false, .int .i64 0, .string (⟨#[]⟩ : ByteArray), .int .u16 0, .slice none 0 0, .slice none 0 0, .slice none 0 0, .int .i64 0] 58 (0, 0)) (by (with_reducible repeat (first | refine blk_drewN ?_ _ | refine blk_drew ?_ | refine blk_alloc ?_ _)); refine blk_far ?_ NB120_141.out _; (with_reducible repeat (first | refine blk_drewN ?_ _ | refine blk_drew ?_ | refine blk_alloc ?_ _)); exact BK120.out) hg (by simp [Value.ownBlock])); have n3_ := Aside0.mk (Kd.R_after (Kd.R_apart_nil (by (with_reducible repeat (first | apply Kd.R_alloc | apply Kd.R_drewN | apply Kd.R_drew)); exact (Kd.R_mono (Kd.R_far (p := ⟨gb141, 11, none⟩) (Kd.R_types HO133.out BK141.out (by decide)) (fun _ hk => hk.2) (.slice Ao30 y145.length co30)) (fun _ h_ => h_.1)))) hg hat); have n4_ := Aside0.mk (Kd.R_after (Kd.R_apart_nil (by (with_reducible repeat (first | apply Kd.R_alloc | apply Kd.R_drewN | apply Kd.R_drew)); exact (Kd.R_mono (Kd.R_far (p := ⟨gb141, 11, none⟩) (Kd.R_types HO136.out BK141.out (by decide)) (fun _ hk => hk.2) (.slice Ao30 y145.length co30)) (fun _ h_ => h_.1)))) hg hat); have n5_ := Aside0.mk (Kd.R_after (Kd.R_apart_nil (by (with_reducible repeat (first | apply Kd.R_alloc | apply Kd.R_drewN | apply Kd.R_drew)); exact (Kd.R_mono (Kd.R_far (p := ⟨gb141, 11, none⟩) (Kd.R_types HO139.out BK141.out (by decide)) (fun _ hk => hk.2) (.slice Ao30 y145.length co30)) (fun _ h_ => h_.1)))) hg hat); have n6_ := Aside0.mk (blk_grown (g := gb141) (o := .cells #[.int .u16 t121, .bool t122, .int .i64 t123, .bool a1_3, .bool t125, .bool t126, .bool t127, .int .i64 t128, .string t129, .int .u16 t130, .slice Ao26 y142.length co26, .slice Ao30 y145.length co30, .slice Ao23 t137.length co23, .int .i64 t140] 58 (0, 0)) (by (with_reducible repeat (first | refine blk_drewN ?_ _ | refine blk_drew ?_ | refine blk_alloc ?_ _)); refine blk_put (cs := #[.int .u16 t121, .bool t122, .int .i64 t123, .bool a1_3, .bool t125, .bool t126, .bool t127, .int .i64 t128, .string t129, .int .u16 t130, .slice Ao26 y142.length co26, .slice Ao22 t134.length co22, .slice Ao23 t137.length co23, .int .i64 t140]) ?_ 11 _ rfl; (with_reducible repeat (first | refine blk_drewN ?_ _ | refine blk_drew ?_ | refine blk_alloc ?_ _)); exact BK141.out) hg (by simp [Value.ownBlock])); have n7_ := Aside0.mk (Kd.R_after (Kd.R_apart_nil (by (with_reducible repeat (first | apply Kd.R_alloc | apply Kd.R_drewN | apply Kd.R_drew)); exact (Kd.R_mono (Kd.R_far (p := ⟨gb141, 11, none⟩) (Kd.R_types HO144.out BK141.out (by decide)) (fun _ hk => hk.2) (.slice Ao30 y145.length co30)) (fun _ h_ => h_.1)))) hg hat); have n8_ := Aside0.mk (Kd.R_after (Kd.R_apart_nil (by (with_reducible repeat (first | apply Kd.R_alloc | apply Kd.R_drewN | apply Kd.R_drew)); exact (Kd.R_mono (Kd.R_far (p := ⟨gb141, 11, none⟩) (Kd.R_types HO147.out BK141.out (by decide)) (fun _ hk => hk.2) (.slice Ao30 y145.length co30)) (fun _ h_ => h_.1)))) hg hat); have n9_ := Aside0.mk (hb); have n10_ := Aside0.mk (ho); clear BK118; clear BK119; clear BK120; clear HO133; clear HO136; clear HO139; clear BK141; clear HO144; clear HO147; clear HB; have BK118 := n0_; have BK119 := n1_; have BK120 := n2_; have HO133 := n3_; have HO136 := n4_; have HO139 := n5_; have BK141 := n6_; have HO144 := n7_; have HO147 := n8_; have HB := n9_; have HO150 := n10_; clear n0_ n1_ n2_ n3_ n4_ n5_ n6_ n7_ n8_ n9_ n10_; clear ho hb hg hat; obtain ⟨Ao34, co34, eo34⟩ := Kd.R_slice HO150.out; subst eo34; have hcz35_0 : w33.cell? ⟨gb141, 0, none⟩ = some (.int .u16 t121) := (blk_cell BK141.out 0).trans rfl; have hcz35_1 : w33.cell? ⟨gb141, 1, none⟩ = some (.bool t122) := (blk_cell BK141.out 1).trans rfl; have hcz35_2 : w33.cell? ⟨gb141, 2, none⟩ = some (.int .i64 t123) := (blk_cell BK141.out 2).trans rfl; have hcz35_3 : w33.cell? ⟨gb141, 3, none⟩ = some (.bool a1_3) := (blk_cell BK141.out 3).trans rfl; have hcz35_4 : w33.cell? ⟨gb141, 4, none⟩ = some (.bool t125) := (blk_cell BK141.out 4).trans rfl; have hcz35_5 : w33.cell? ⟨gb141, 5, none⟩ = some (.bool t126) := (blk_cell BK141.out 5).trans rfl; have hcz35_6 : w33.cell? ⟨gb141, 6, none⟩ = some (.bool t127) := (blk_cell BK141.out 6).trans rfl; have hcz35_7 : w33.cell? ⟨gb141, 7, none⟩ = some (.int .i64 t128) := (blk_cell BK141.out 7).trans rfl; have hcz35_8 : w33.cell? ⟨gb141, 8, none⟩ = some (.string t129) := (blk_cell BK141.out 8).trans rfl; have hcz35_9 : w33.cell? ⟨gb141, 9, none⟩ = some (.int .u16 t130) := (blk_cell BK141.out 9).trans rfl; have hcz35_10 : w33.cell? ⟨gb141, 10, none⟩ = some (.slice Ao26 y142.length co26) := (blk_cell BK141.out 10).trans rfl; have hcz35_11 : w33.cell? ⟨gb141, 11, none⟩ = some (.slice Ao30 y145.length co30) := (blk_cell BK141.out 11).trans rfl; have hcz35_12 : w33.cell? ⟨gb141, 12, none⟩ = some (.slice Ao23 t137.length co23) := (blk_cell BK141.out 12).trans rfl; have hcz35_13 : w33.cell? ⟨gb141, 13, none⟩ = some (.int .i64 t140) := (blk_cell BK141.out 13).trans rfl; have hfz35_0 := blk_frozen BK141.out 0; have hfz35_1 := blk_frozen BK141.out 1; have hfz35_2 := blk_frozen BK141.out 2; have hfz35_3 := blk_frozen BK141.out 3; have hfz35_4 := blk_frozen BK141.out 4; have hfz35_5 := blk_frozen BK141.out 5; have hfz35_6 := blk_frozen BK141.out 6; have hfz35_7 := blk_frozen BK141.out 7; have hfz35_8 := blk_frozen BK141.out 8; have hfz35_9 := blk_frozen BK141.out 9; have hfz35_10 := blk_frozen BK141.out 10; have hfz35_11 := blk_frozen BK141.out 11; have hfz35_12 := blk_frozen BK141.out 12; have hfz35_13 := blk_frozen BK141.out 13; have hcz36_0 : w33.cell? ⟨gb120, 0, none⟩ = some (.int .u16 0) := (blk_cell BK120.out 0).trans rfl; have hcz36_1 : w33.cell? ⟨gb120, 1, none⟩ = some (.bool false) := (blk_cell BK120.out 1).trans rfl; have hcz36_2 : w33.cell? ⟨gb120, 2, none⟩ = some (.int .i64 0) := (blk_cell BK120.out 2).trans rfl; have hcz36_3 : w33.cell? ⟨gb120, 3, none⟩ = some (.bool false) := (blk_cell BK120.out 3).trans rfl; have hcz36_4 : w33.cell? ⟨gb120, 4, none⟩ = some (.bool false) := (blk_cell BK120.out 4).trans rfl; have hcz36_5 : w33.cell? ⟨gb120, 5, none⟩ = some (.bool false) := (blk_cell BK120.out 5).trans rfl; have hcz36_6 : w33.cell? ⟨gb120, 6, none⟩ = some (.bool false) := (blk_cell BK120.out 6).trans rfl; have hcz36_7 : w33.cell? ⟨gb120, 7, none⟩ = some (.int .i64 0) := (blk_cell BK120.out 7).trans rfl; have hcz36_8 : w33.cell? ⟨gb120, 8, none⟩ = some (.string (⟨#[]⟩ : ByteArray)) := (blk_cell BK120.out 8).trans rfl; have hcz36_9 : w33.cell? ⟨gb120, 9, none⟩ = some (.int .u16 0) := (blk_cell BK120.out 9).trans rfl; have hcz36_10 : w33.cell? ⟨gb120, 10, none⟩ = some (.slice none 0 0) := (blk_cell BK120.out 10).trans rfl; have hcz36_11 : w33.cell? ⟨gb120, 11, none⟩ = some (.slice none 0 0) := (blk_cell BK120.out 11).trans rfl; have hcz36_12 : w33.cell? ⟨gb120, 12, none⟩ = some (.slice none 0 0) := (blk_cell BK120.out 12).trans rfl; have hcz36_13 : w33.cell? ⟨gb120, 13, none⟩ = some (.int .i64 0) := (blk_cell BK120.out 13).trans rfl; have hfz36_0 := blk_frozen BK120.out 0; have hfz36_1 := blk_frozen BK120.out 1; have hfz36_2 := blk_frozen BK120.out 2; have hfz36_3 := blk_frozen BK120.out 3; have hfz36_4 := blk_frozen BK120.out 4; have hfz36_5 := blk_frozen BK120.out 5; have hfz36_6 := blk_frozen BK120.out 6; have hfz36_7 := blk_frozen BK120.out 7; have hfz36_8 := blk_frozen BK120.out 8; have hfz36_9 := blk_frozen BK120.out 9; have hfz36_10 := blk_frozen BK120.out 10; have hfz36_11 := blk_frozen BK120.out 11; have hfz36_12 := blk_frozen BK120.out 12; have hfz36_13 := blk_frozen BK120.out 13))
    refine bodyPost_ret (results_cell_row rfl _ _ gb120 58 #[.int .u16 t121, .bool t122, .int .i64 t123, .bool a1_3, .bool t125, .bool t126, .bool t127, .int .i64 t128, .string t129, .int .u16 t130, .slice Ao26 y142.length co26, .slice Ao30 y145.length co30, .slice Ao34 y148.length co34, .int .i64 t140] (0, 0) _ rfl (by (with_reducible repeat (first | refine blk_drewN ?_ _ | refine blk_drew ?_ | refine blk_alloc ?_ _)); refine blk_put (cs := #[.int .u16 t121, .bool t122, .int .i64 t123, .bool a1_3, .bool t125, .bool t126, .bool t127, .int .i64 t128, .string t129, .int .u16 t130, .slice Ao26 y142.length co26, .slice Ao30 y145.length co30, .slice Ao34 y148.length co34, .int .i64 0]) ?_ 13 _ rfl; (with_reducible repeat (first | refine blk_drewN ?_ _ | refine blk_drew ?_ | refine blk_alloc ?_ _)); refine blk_put (cs := #[.int .u16 t121, .bool t122, .int .i64 t123, .bool a1_3, .bool t125, .bool t126, .bool t127, .int .i64 t128, .string t129, .int .u16 t130, .slice Ao26 y142.length co26, .slice Ao30 y145.length co30, .slice none 0 0, .int .i64 0]) ?_ 12 _ rfl; (with_reducible repeat (first | refine blk_drewN ?_ _ | refine blk_drew ?_ | refine blk_alloc ?_ _)); refine blk_put (cs := #[.int .u16 t121, .bool t122, .int .i64 t123, .bool a1_3, .bool t125, .bool t126, .bool t127, .int .i64 t128, .string t129, .int .u16 t130, .slice Ao26 y142.length co26, .slice none 0 0, .slice none 0 0, .int .i64 0]) ?_ 11 _ rfl; (with_reducible repeat (first | refine blk_drewN ?_ _ | refine blk_drew ?_ | refine blk_alloc ?_ _)); refine blk_put (cs := #[.int .u16 t121, .bool t122, .int .i64 t123, .bool a1_3, .bool t125, .bool t126, .bool t127, .int .i64 t128, .string t129, .int .u16 t130, .slice none 0 0, .slice none 0 0, .slice none 0 0, .int .i64 0]) ?_ 10 _ rfl; (with_reducible repeat (first | refine blk_drewN ?_ _ | refine blk_drew ?_ | refine blk_alloc ?_ _)); refine blk_put (cs := #[.int .u16 t121, .bool t122, .int .i64 t123, .bool a1_3, .bool t125, .bool t126, .bool t127, .int .i64 t128, .string t129, .int .u16 0, .slice none 0 0, .slice none 0 0, .slice none 0 0, .int .i64 0]) ?_ 9 _ rfl; (with_reducible repeat (first | refine blk_drewN ?_ _ | refine blk_drew ?_ | refine blk_alloc ?_ _)); refine blk_put (cs := #[.int .u16 t121, .bool t122, .int .i64 t123, .bool a1_3, .bool t125, .bool t126, .bool t127, .int .i64 t128, .string (⟨#[]⟩ : ByteArray), .int .u16 0, .slice none 0 0, .slice none 0 0, .slice none 0 0, .int .i64 0]) ?_ 8 _ rfl; (with_reducible repeat (first | refine blk_drewN ?_ _ | refine blk_drew ?_ | refine blk_alloc ?_ _)); refine blk_put (cs := #[.int .u16 t121, .bool t122, .int .i64 t123, .bool a1_3, .bool t125, .bool t126, .bool t127, .int .i64 0, .string (⟨#[]⟩ : ByteArray), .int .u16 0, .slice none 0 0, .slice none 0 0, .slice none 0 0, .int .i64 0]) ?_ 7 _ rfl; (with_reducible repeat (first | refine blk_drewN ?_ _ | refine blk_drew ?_ | refine blk_alloc ?_ _)); refine blk_put (cs := #[.int .u16 t121, .bool t122, .int .i64 t123, .bool a1_3, .bool t125, .bool t126, .bool false, .int .i64 0, .string (⟨#[]⟩ : ByteArray), .int .u16 0, .slice none 0 0, .slice none 0 0, .slice none 0 0, .int .i64 0]) ?_ 6 _ rfl; (with_reducible repeat (first | refine blk_drewN ?_ _ | refine blk_drew ?_ | refine blk_alloc ?_ _)); refine blk_put (cs := #[.int .u16 t121, .bool t122, .int .i64 t123, .bool a1_3, .bool t125, .bool false, .bool false, .int .i64 0, .string (⟨#[]⟩ : ByteArray), .int .u16 0, .slice none 0 0, .slice none 0 0, .slice none 0 0, .int .i64 0]) ?_ 5 _ rfl; (with_reducible repeat (first | refine blk_drewN ?_ _ | refine blk_drew ?_ | refine blk_alloc ?_ _)); refine blk_put (cs := #[.int .u16 t121, .bool t122, .int .i64 t123, .bool a1_3, .bool false, .bool false, .bool false, .int .i64 0, .string (⟨#[]⟩ : ByteArray), .int .u16 0, .slice none 0 0, .slice none 0 0, .slice none 0 0, .int .i64 0]) ?_ 4 _ rfl; (with_reducible repeat (first | refine blk_drewN ?_ _ | refine blk_drew ?_ | refine blk_alloc ?_ _)); refine blk_put (cs := #[.int .u16 t121, .bool t122, .int .i64 t123, .bool false, .bool false, .bool false, .bool false, .int .i64 0, .string (⟨#[]⟩ : ByteArray), .int .u16 0, .slice none 0 0, .slice none 0 0, .slice none 0 0, .int .i64 0]) ?_ 3 _ rfl; (with_reducible repeat (first | refine blk_drewN ?_ _ | refine blk_drew ?_ | refine blk_alloc ?_ _)); refine blk_put (cs := #[.int .u16 t121, .bool t122, .int .i64 0, .bool false, .bool false, .bool false, .bool false, .int .i64 0, .string (⟨#[]⟩ : ByteArray), .int .u16 0, .slice none 0 0, .slice none 0 0, .slice none 0 0, .int .i64 0]) ?_ 2 _ rfl; (with_reducible repeat (first | refine blk_drewN ?_ _ | refine blk_drew ?_ | refine blk_alloc ?_ _)); refine blk_put (cs := #[.int .u16 t121, .bool false, .int .i64 0, .bool false, .bool false, .bool false, .bool false, .int .i64 0, .string (⟨#[]⟩ : ByteArray), .int .u16 0, .slice none 0 0, .slice none 0 0, .slice none 0 0, .int .i64 0]) ?_ 1 _ rfl; (with_reducible repeat (first | refine blk_drewN ?_ _ | refine blk_drew ?_ | refine blk_alloc ?_ _)); refine blk_put (cs := #[.int .u16 0, .bool false, .int .i64 0, .bool false, .bool false, .bool false, .bool false, .int .i64 0, .string (⟨#[]⟩ : ByteArray), .int .u16 0, .slice none 0 0, .slice none 0 0, .slice none 0 0, .int .i64 0]) ?_ 0 _ rfl; (with_reducible repeat (first | refine blk_drewN ?_ _ | refine blk_drew ?_ | refine blk_alloc ?_ _)); refine blk_far ?_ NB120_141.out _; (with_reducible repeat (first | refine blk_drewN ?_ _ | refine blk_drew ?_ | refine blk_alloc ?_ _)); exact BK120.out) Try.underlying58 rfl (by kernel_rfl)) rfl ?_
    exact ⟨_, _, _, by first | rfl | (simp [errW_none, errW_some] <;> rfl) | (simp [*, errW_none, errW_some] <;> rfl), by (with_reducible repeat (first | apply Kd.R_alloc | apply Kd.R_drewN | apply Kd.R_drew)); exact Kd.R_mono (Kd.R_far (p := ⟨gb120, 13, none⟩) (Kd.R_far (p := ⟨gb120, 12, none⟩) (Kd.R_far (p := ⟨gb120, 11, none⟩) (Kd.R_far (p := ⟨gb120, 10, none⟩) (Kd.R_far (p := ⟨gb120, 9, none⟩) (Kd.R_far (p := ⟨gb120, 8, none⟩) (Kd.R_far (p := ⟨gb120, 7, none⟩) (Kd.R_far (p := ⟨gb120, 6, none⟩) (Kd.R_far (p := ⟨gb120, 5, none⟩) (Kd.R_far (p := ⟨gb120, 4, none⟩) (Kd.R_far (p := ⟨gb120, 3, none⟩) (Kd.R_far (p := ⟨gb120, 2, none⟩) (Kd.R_far (p := ⟨gb120, 1, none⟩) (Kd.R_far (p := ⟨gb120, 0, none⟩) (Kd.R_far (p := ⟨gb141, 12, none⟩) (Kd.R_types (Kd.R_types HO144.out BK141.out (by decide)) BK120.out (by decide)) (fun _ hk => hk.1.2) (.slice Ao34 y148.length co34)) (fun _ hk => hk.2) (.int .u16 t121)) (fun _ hk => hk.2) (.bool t122)) (fun _ hk => hk.2) (.int .i64 t123)) (fun _ hk => hk.2) (.bool a1_3)) (fun _ hk => hk.2) (.bool t125)) (fun _ hk => hk.2) (.bool t126)) (fun _ hk => hk.2) (.bool t127)) (fun _ hk => hk.2) (.int .i64 t128)) (fun _ hk => hk.2) (.string t129)) (fun _ hk => hk.2) (.int .u16 t130)) (fun _ hk => hk.2) (.slice Ao26 y142.length co26)) (fun _ hk => hk.2) (.slice Ao30 y145.length co30)) (fun _ hk => hk.2) (.slice Ao34 y148.length co34)) (fun _ hk => hk.2) (.int .i64 t140)) (fun _ hk => ⟨hk.1.1.1.2, hk.1.1.2⟩), by (with_reducible repeat (first | apply Kd.R_alloc | apply Kd.R_drewN | apply Kd.R_drew)); exact Kd.R_mono (Kd.R_far (p := ⟨gb120, 13, none⟩) (Kd.R_far (p := ⟨gb120, 12, none⟩) (Kd.R_far (p := ⟨gb120, 11, none⟩) (Kd.R_far (p := ⟨gb120, 10, none⟩) (Kd.R_far (p := ⟨gb120, 9, none⟩) (Kd.R_far (p := ⟨gb120, 8, none⟩) (Kd.R_far (p := ⟨gb120, 7, none⟩) (Kd.R_far (p := ⟨gb120, 6, none⟩) (Kd.R_far (p := ⟨gb120, 5, none⟩) (Kd.R_far (p := ⟨gb120, 4, none⟩) (Kd.R_far (p := ⟨gb120, 3, none⟩) (Kd.R_far (p := ⟨gb120, 2, none⟩) (Kd.R_far (p := ⟨gb120, 1, none⟩) (Kd.R_far (p := ⟨gb120, 0, none⟩) (Kd.R_far (p := ⟨gb141, 12, none⟩) (Kd.R_types (Kd.R_types HO147.out BK141.out (by decide)) BK120.out (by decide)) (fun _ hk => hk.1.2) (.slice Ao34 y148.length co34)) (fun _ hk => hk.2) (.int .u16 t121)) (fun _ hk => hk.2) (.bool t122)) (fun _ hk => hk.2) (.int .i64 t123)) (fun _ hk => hk.2) (.bool a1_3)) (fun _ hk => hk.2) (.bool t125)) (fun _ hk => hk.2) (.bool t126)) (fun _ hk => hk.2) (.bool t127)) (fun _ hk => hk.2) (.int .i64 t128)) (fun _ hk => hk.2) (.string t129)) (fun _ hk => hk.2) (.int .u16 t130)) (fun _ hk => hk.2) (.slice Ao26 y142.length co26)) (fun _ hk => hk.2) (.slice Ao30 y145.length co30)) (fun _ hk => hk.2) (.slice Ao34 y148.length co34)) (fun _ hk => hk.2) (.int .i64 t140)) (fun _ hk => ⟨hk.1.1.1.2.2.2, hk.1.1.2⟩), by (with_reducible repeat (first | apply Kd.R_alloc | apply Kd.R_drewN | apply Kd.R_drew)); exact Kd.R_mono (Kd.R_far (p := ⟨gb120, 13, none⟩) (Kd.R_far (p := ⟨gb120, 12, none⟩) (Kd.R_far (p := ⟨gb120, 11, none⟩) (Kd.R_far (p := ⟨gb120, 10, none⟩) (Kd.R_far (p := ⟨gb120, 9, none⟩) (Kd.R_far (p := ⟨gb120, 8, none⟩) (Kd.R_far (p := ⟨gb120, 7, none⟩) (Kd.R_far (p := ⟨gb120, 6, none⟩) (Kd.R_far (p := ⟨gb120, 5, none⟩) (Kd.R_far (p := ⟨gb120, 4, none⟩) (Kd.R_far (p := ⟨gb120, 3, none⟩) (Kd.R_far (p := ⟨gb120, 2, none⟩) (Kd.R_far (p := ⟨gb120, 1, none⟩) (Kd.R_far (p := ⟨gb120, 0, none⟩) (Kd.R_far (p := ⟨gb141, 12, none⟩) (Kd.R_types (Kd.R_types HO150.out BK141.out (by decide)) BK120.out (by decide)) (fun _ hk => hk.1.2) (.slice Ao34 y148.length co34)) (fun _ hk => hk.2) (.int .u16 t121)) (fun _ hk => hk.2) (.bool t122)) (fun _ hk => hk.2) (.int .i64 t123)) (fun _ hk => hk.2) (.bool a1_3)) (fun _ hk => hk.2) (.bool t125)) (fun _ hk => hk.2) (.bool t126)) (fun _ hk => hk.2) (.bool t127)) (fun _ hk => hk.2) (.int .i64 t128)) (fun _ hk => hk.2) (.string t129)) (fun _ hk => hk.2) (.int .u16 t130)) (fun _ hk => hk.2) (.slice Ao26 y142.length co26)) (fun _ hk => hk.2) (.slice Ao30 y145.length co30)) (fun _ hk => hk.2) (.slice Ao34 y148.length co34)) (fun _ hk => hk.2) (.int .i64 t140)) (fun _ hk => ⟨hk.1.1.2.2.2.1, hk.1.1.2.2.2.2⟩), by repeat (first | (with_reducible first | exact HB.out | apply below_alloc | apply pw_below_drewN | apply below_drew1 | refine below_set ?_ GE118.out | refine below_set ?_ GE119.out | refine below_set ?_ GE120.out | refine below_set ?_ GE141.out) | exact HB.out)⟩
   ·rw [if_neg c6] at H
    exact absurd H (by simp)
  ·rw [if_neg c5] at H
   exact absurd H (by simp)
 ·rw [if_neg c4] at H
  exact absurd H (by simp)

end Go.Proofs.Ytdkjlbbbdjkhbaa.PAll

/- Messages as one datum; blocks that are kept; reply.Base and reply.Passed once more, in these words. -/
namespace Go.Proofs.Ytdkjlbbbdjkhbaa.Hand
open Go.RowKit Go.Proofs.YtdkjlbbbdjkhbaaW.PrintWords Go.Proofs.YtdkjlbbbdjkhbaaW.PrintLast Go.Proofs.Ytdkjlbbbdjkhbaa.PAll

/-! ### messages -/
structure Ms where
  id : Int
  reply : Bool
  op : Int
  auth : Bool
  cut : Bool
  des : Bool
  av : Bool
  code : Int
  name : ByteArray
  type : Int
  ans : List S43
  aut : List S43
  ext : List S43
  size : Int
abbrev Ms.cells (m : Ms) (a b c : Value) : List Value := [.int .u16 m.id, .bool m.reply, .int .i64 m.op, .bool m.auth, .bool m.cut, .bool m.des, .bool m.av, .int .i64 m.code, .string m.name, .int .u16 m.type, a, b, c, .int .i64 m.size]
abbrev Ms.agg (m : Ms) (a b c : Value) : Value := .agg #[.int .u16 m.id, .bool m.reply, .int .i64 m.op, .bool m.auth, .bool m.cut, .bool m.des, .bool m.av, .int .i64 m.code, .string m.name, .int .u16 m.type, a, b, c, .int .i64 m.size]
abbrev Ms.box (m : Ms) (a b c : Value) : Obj := .cells #[.int .u16 m.id, .bool m.reply, .int .i64 m.op, .bool m.auth, .bool m.cut, .bool m.des, .bool m.av, .int .i64 m.code, .string m.name, .int .u16 m.type, a, b, c, .int .i64 m.size] 58 (0, 0)
def Ms.zero : Ms := ⟨0, false, 0, false, false, false, false, 0, ⟨#[]⟩, 0, [], [], [], 0⟩
def baseM (q : Ms) (code : Int) : Ms := ⟨q.id, true, q.op, false, false, q.des, true, Go.bits .and .i64 code 15, q.name, q.type, [], [], [], mn q.size 4096⟩
def passM (q u : Ms) : Ms := { baseM q u.code with auth := u.auth, ans := u.ans, aut := u.aut, ext := u.ext }

/-! ### lists that are read; lists of one's own -/
def Rd (w : World) (v : Value) (l : List S43) : Prop := ∃ A c, v = .slice A l.length c ∧ l.length ≤ c ∧ Kd.C k43 w A l.length l
theorem Rd.below {w w1 : World} {v : Value} {l : List S43} (h : Rd w v l) (hb : Below w.heap.size w w1) : Rd w1 v l := by
  obtain ⟨A, c, h1, h2, h3⟩ := h
  exact ⟨A, c, h1, h2, Kd.C_below h3 hb⟩
def Own (b : Nat) (w : World) (v : Value) (l : List S43) : Prop := Kd.R k43 43 w b (fun _ => True) v l
theorem Own.rd {b : Nat} {w : World} {v : Value} {l : List S43} (h : Own b w v l) : Rd w v l := Kd.R_reads h
theorem Own.below {b : Nat} {w w1 : World} {v : Value} {l : List S43} (h : Own b w v l) (hb : Below w.heap.size w w1) : Own b w1 v l := Kd.R_below h hb
theorem Own.lower {b b' : Nat} {w : World} {v : Value} {l : List S43} (h : Own b w v l) (hb : b' ≤ b) : Own b' w v l := Kd.R_lower h hb
theorem Own.keep {b g : Nat} {w w1 : World} {v : Value} {l : List S43} (h : Own b w v l) (hg : g < b) (hk : KeepBut w w1 g none) : Own b w1 v l :=
  Kd.R_mono (Kd.R_keep (Kd.R_bound h) hk (fun k hk => by have := hk.2.1; omega)) (fun _ _ => trivial)
theorem Own.nil (b : Nat) (w : World) : Own b w (.slice none 0 0) [] := Kd.R_nil _ _ _ _ _

/-! ### blocks that are kept -/
def Bk (w : World) (bs : List (Nat × Obj)) (W : World) : Prop := Below w.heap.size w W ∧ (∀ p ∈ bs, w.heap.size ≤ p.1 ∧ W.heap[p.1]? = some p.2) ∧ (bs.map (·.1)).Nodup
theorem Bk.start (w : World) : Bk w [] w := ⟨Below.refl _ _, by simp, by simp⟩
theorem Bk.below {w W : World} {bs : List (Nat × Obj)} (k : Bk w bs W) : Below w.heap.size w W := k.1
theorem Bk.step {w W W1 : World} {bs : List (Nat × Obj)} (k : Bk w bs W) (hb : Below W.heap.size W W1) : Bk w bs W1 :=
  ⟨below_step k.1 hb, fun p hp => ⟨(k.2.1 p hp).1, blk_below (k.2.1 p hp).2 hb⟩, k.2.2⟩
theorem Bk.box {w W W1 : World} {bs : List (Nat × Obj)} {g : Nat} {o : Obj} (k : Bk w bs W) (hg : g = W.heap.size) (h : W1.heap[g]? = some o) (hb : Below W.heap.size W W1) : Bk w ((g, o) :: bs) W1 := by
  have k1 := k.step hb
  refine ⟨k1.1, fun p hp => ?_, ?_⟩
  · rcases List.mem_cons.1 hp with rfl | hp
    · exact ⟨by rw [hg]; exact below_size k.1, h⟩
    · exact k1.2.1 p hp
  · rw [List.map_cons, List.nodup_cons]
    refine ⟨fun hm => ?_, k.2.2⟩
    obtain ⟨p, hp, e⟩ := List.mem_map.1 hm
    have := blk_lt (k.2.1 p hp).2
    rw [e, hg] at this
    exact absurd this (Nat.lt_irrefl _)
theorem Bk.get {w W : World} {bs : List (Nat × Obj)} {g : Nat} {o : Obj} (k : Bk w bs W) (i : Nat) (h : bs[i]? = some (g, o)) : W.heap[g]? = some o := (k.2.1 _ (List.mem_of_getElem? h)).2
theorem Bk.ge {w W : World} {bs : List (Nat × Obj)} {g : Nat} {o : Obj} (k : Bk w bs W) (i : Nat) (h : bs[i]? = some (g, o)) : w.heap.size ≤ g := (k.2.1 _ (List.mem_of_getElem? h)).1
theorem Bk.lt {w W : World} {bs : List (Nat × Obj)} {g : Nat} {o : Obj} (k : Bk w bs W) (i : Nat) (h : bs[i]? = some (g, o)) : g < W.heap.size := blk_lt (k.get i h)
theorem Bk.put {w W W1 : World} {bs : List (Nat × Obj)} {g : Nat} {o o1 : Obj} (k : Bk w bs W) (i : Nat) (h : bs[i]? = some (g, o)) (h1 : W1.heap[g]? = some o1) (hk : KeepBut W W1 g none)
    (hB : ∀ w0 : World, Below w0.heap.size w0 W → w0.heap.size ≤ g → Below w0.heap.size w0 W1) : Bk w (bs.set i (g, o1)) W1 := by
  have hi := (List.getElem?_eq_some_iff.1 h).1
  have hgi := (List.getElem?_eq_some_iff.1 h).2
  have hmap : (bs.set i (g, o1)).map (·.1) = bs.map (·.1) := by
    rw [List.map_set]
    refine List.ext_getElem? fun j => ?_
    by_cases hj : i = j
    · subst hj
      rw [List.getElem?_set_self (by simpa using hi), List.getElem?_map, h]
      rfl
    · rw [List.getElem?_set_ne hj]
  refine ⟨hB w k.1 (k.ge i h), fun p hp => ?_, by rw [hmap]; exact k.2.2⟩
  obtain ⟨j, hj⟩ := List.getElem?_of_mem hp
  by_cases e : i = j
  · subst e
    rw [List.getElem?_set_self hi] at hj
    cases hj
    exact ⟨k.ge i h, h1⟩
  · rw [List.getElem?_set_ne e] at hj
    have hm := List.mem_of_getElem? hj
    refine ⟨(k.2.1 p hm).1, hk.blk (k.2.1 p hm).2 (fun hpg => ?_) (by simp)⟩
    have hjl := (List.getElem?_eq_some_iff.1 hj).1
    have hpw := List.pairwise_iff_getElem.1 k.2.2
    have el : (bs.map (·.1))[i]'(by simpa using hi) = (bs.map (·.1))[j]'(by simpa using hjl) := by
      rw [List.getElem_map, List.getElem_map, hgi, (List.getElem?_eq_some_iff.1 hj).2, hpg]
    rcases Nat.lt_or_gt_of_ne e with hlt | hlt
    · exact hpw i j (by simpa using hi) (by simpa using hjl) hlt el
    · exact hpw j i (by simpa using hjl) (by simpa using hi) hlt el.symm
theorem Bk.set {w W : World} {bs : List (Nat × Obj)} {g : Nat} {cs : Array Value} {t : TypeId} (k : Bk w bs W) (i : Nat) (h : bs[i]? = some (g, .cells cs t (0, 0))) (j : Nat) (v : Value) :
    Bk w (bs.set i (g, .cells (cs.setIfInBounds j v) t (0, 0))) (W.setCell ⟨g, j, none⟩ v) :=
  k.put i h (blk_set (k.get i h) j v) ((KeepBut.refl W g none).set_ j v) (fun w0 hb hle => below_set hb hle)

/-! ### Base, Passed -/
theorem base_any (q : Ms) (a b c : Value) (code : Int) (w : World) (ha : Rd w a q.ans) (hb : Rd w b q.aut) (hc : Rd w c q.ext) :
    Calls Try.prog 26 #[q.agg a b c, .int .i64 code] w fun e w' => ∃ x y z : Value, e = .returned ((baseM q code).agg x y z) ∧ Own w.heap.size w' x [] ∧ Own w.heap.size w' y [] ∧ Own w.heap.size w' z [] ∧ Below w.heap.size w w' := by
  obtain ⟨A, ca, rfl, h1, h2⟩ := ha
  obtain ⟨B, cb, rfl, h3, h4⟩ := hb
  obtain ⟨C, cc, rfl, h5, h6⟩ := hc
  refine (reply_Base.calls q.id q.reply q.op q.auth q.cut q.des q.av q.code q.name q.type A ca q.ans B cb q.aut C cc q.ext q.size code _ _ _ _ _ _ _ _ _ _ _ _ _ _ w h2 h1 h4 h3 h6 h5 rfl).mono ?_
  rintro e w1 ⟨x, y, z, rfl, r1, r2, r3, hB⟩
  exact ⟨x, y, z, rfl, Kd.R_mono r1 (fun _ _ => trivial), Kd.R_mono r2 (fun _ _ => trivial), Kd.R_mono r3 (fun _ _ => trivial), hB⟩
theorem passed_any (q u : Ms) (a b c d e f : Value) (w : World) (ha : Rd w a q.ans) (hb : Rd w b q.aut) (hc : Rd w c q.ext) (hd : Rd w d u.ans) (he : Rd w e u.aut) (hf : Rd w f u.ext)
    (l1 : u.ans.length < 3518437208883) (l2 : u.aut.length < 3518437208883) (l3 : u.ext.length < 3518437208883) :
    Calls Try.prog 28 #[q.agg a b c, u.agg d e f] w fun e w' => ∃ x y z : Value, e = .returned ((passM q u).agg x y z) ∧ Own w.heap.size w' x u.ans ∧ Own w.heap.size w' y u.aut ∧ Own w.heap.size w' z u.ext ∧ Below w.heap.size w w' := by
  obtain ⟨A, ca, rfl, h1, h2⟩ := ha
  obtain ⟨B, cb, rfl, h3, h4⟩ := hb
  obtain ⟨C, cc, rfl, h5, h6⟩ := hc
  obtain ⟨D, cd, rfl, h7, h8⟩ := hd
  obtain ⟨E, ce, rfl, h9, h10⟩ := he
  obtain ⟨F, cf, rfl, h11, h12⟩ := hf
  have hP : reply_Passed.f q.id q.reply q.op q.auth q.cut q.des q.av q.code q.name q.type q.ans q.aut q.ext q.size u.id u.reply u.op u.auth u.cut u.des u.av u.code u.name u.type u.ans u.aut u.ext u.size =
      some ((passM q u).id, (passM q u).reply, (passM q u).op, (passM q u).auth, (passM q u).cut, (passM q u).des, (passM q u).av, (passM q u).code, (passM q u).name, (passM q u).type, u.ans, u.aut, u.ext, (passM q u).size) := by
    unfold reply_Passed.f reply_Base.f
    rw [Option.bind_some, if_pos (by simpa using l1), if_pos (by simpa using l2), if_pos (by simpa using l3)]
    rfl
  refine (reply_Passed.calls q.id q.reply q.op q.auth q.cut q.des q.av q.code q.name q.type A ca q.ans B cb q.aut C cc q.ext q.size u.id u.reply u.op u.auth u.cut u.des u.av u.code u.name u.type D cd u.ans E ce u.aut F cf u.ext u.size _ _ _ _ _ _ _ _ _ _ _ _ _ _ w h2 h1 h4 h3 h6 h5 h8 h7 h10 h9 h12 h11 hP).mono ?_
  rintro e w1 ⟨x, y, z, rfl, r1, r2, r3, hB⟩
  exact ⟨x, y, z, rfl, Kd.R_mono r1 (fun _ _ => trivial), Kd.R_mono r2 (fun _ _ => trivial), Kd.R_mono r3 (fun _ _ => trivial), hB⟩
end Go.Proofs.Ytdkjlbbbdjkhbaa.Hand

namespace Go.Proofs.Ytdkjlbbbdjkhbaa.PAll
open Go.RowKit Go.Proofs.YtdkjlbbbdjkhbaaW.PrintWords Go.Proofs.YtdkjlbbbdjkhbaaW.PrintLast Go.Proofs.YtdkjlbbbdjkhbaaW.PrintMore
attribute [local go_sem] max2_int min2_int max_two min_two max_three min_three max_four min_four   -- for this text's walks alone
open Go.Proofs.Ytdkjlbbbdjkhbaa.Hand

/-! ### name_Labels: function 37 -/
mutual
def name_Labels.j0 : Nat → List ByteArray → ByteArray → Bool → Option (List ByteArray × Bool)
 | 0, _, _, _ => none
 | k + 1, x4, x5, x16 => if x16 = true then (some (([] : List ByteArray), false)) else (name_Labels.l0 k x4 x5)
def name_Labels.l0 : Nat → List ByteArray → ByteArray → Option (List ByteArray × Bool)
 | 0, _, _ => none
 | k + 1, x4, x5 => if (x5.size : Int) > 0 then (if 0 < (x5.size : Int) then (if (wrap64 (bt x5 0)) < 1 then (some (([] : List ByteArray), false)) else (if (wrap64 (bt x5 0)) > 63 then (some (([] : List ByteArray), false)) else (if (wrap64 (bt x5 0)) ≥ (x5.size : Int) then (some (([] : List ByteArray), false)) else (if 1 ≤ (wrap64 (1 + (wrap64 (bt x5 0)))) then (if (wrap64 (1 + (wrap64 (bt x5 0)))) ≤ (x5.size : Int) then (if x4.length < 8796093022208 then (if 0 ≤ (wrap64 (1 + (wrap64 (bt x5 0)))) then (name_Labels.l0 k (x4 ++ [x5.extract 1 ((wrap64 (1 + (wrap64 (bt x5 0)))) : Int).toNat]) (x5.extract ((wrap64 (1 + (wrap64 (bt x5 0)))) : Int).toNat x5.size)) else (none)) else (none)) else (none)) else (none))))) else (none)) else (some (x4, true))
end
def name_Labels.f (k : Nat) (a0 : ByteArray) : Option (List ByteArray × Bool) := if (a0.size : Int) > 254 then (name_Labels.j0 k ([] : List ByteArray) a0 true) else ((name_folded.f a0).bind fun t101 => (name_Labels.j0 k ([] : List ByteArray) a0 (a0.toList != t101.toList)))
theorem name_Labels.mono_l : ∀ k, (∀ y0 y1 y2, LeO (name_Labels.j0 k y0 y1 y2) (name_Labels.j0 (k + 1) y0 y1 y2)) ∧ (∀ y0 y1, LeO (name_Labels.l0 k y0 y1) (name_Labels.l0 (k + 1) y0 y1))
 | 0 => ⟨fun _ _ _ r h => by simp [name_Labels.j0] at h, fun _ _ r h => by simp [name_Labels.l0] at h⟩
 | k + 1 => by
  obtain ⟨ih0, ih1⟩ := name_Labels.mono_l k
  refine ⟨?_, ?_⟩
  ·intro y0 y1 y2
   unfold name_Labels.j0
   repeat' first
   | (with_reducible exact ih0 _ _ _)
   | (with_reducible exact ih1 _ _)
   | (with_reducible exact LeO.refl _)
   | (with_reducible exact LeO.none _)
   | (with_reducible refine LeO.ite ?_ ?_)
   | (with_reducible refine LeO.bind ?_ (fun _ => ?_))
   | exact ih0 _ _ _
   | exact ih1 _ _
   | exact LeO.none _
   | refine LeO.ite ?_ ?_
   | refine LeO.bind ?_ (fun _ => ?_)
  ·intro y0 y1
   unfold name_Labels.l0
   repeat' first
   | (with_reducible exact ih0 _ _ _)
   | (with_reducible exact ih1 _ _)
   | (with_reducible exact LeO.refl _)
   | (with_reducible exact LeO.none _)
   | (with_reducible refine LeO.ite ?_ ?_)
   | (with_reducible refine LeO.bind ?_ (fun _ => ?_))
   | exact ih0 _ _ _
   | exact ih1 _ _
   | exact LeO.none _
   | refine LeO.ite ?_ ?_
   | refine LeO.bind ?_ (fun _ => ?_)
theorem name_Labels.mono : ∀ a0 k, LeO (name_Labels.f k a0) (name_Labels.f (k + 1) a0) := by
 intro a0 k
 obtain ⟨ih0, ih1⟩ := name_Labels.mono_l k
 unfold name_Labels.f
 repeat' first
   | (with_reducible exact ih0 _ _ _)
   | (with_reducible exact ih1 _ _)
   | (with_reducible exact LeO.refl _)
   | (with_reducible exact LeO.none _)
   | (with_reducible refine LeO.ite ?_ ?_)
   | (with_reducible refine LeO.bind ?_ (fun _ => ?_))
   | exact ih0 _ _ _
   | exact ih1 _ _
   | exact LeO.none _
   | refine LeO.ite ?_ ?_
   | refine LeO.bind ?_ (fun _ => ?_)
set_option maxHeartbeats 8000000 in
set_option maxRecDepth 100000 in
theorem name_Labels.calls (k : Nat) (a0 : ByteArray) (r1 : List ByteArray) (r2 : Bool) (w : World) (h : name_Labels.f k a0 = some (r1, r2)) :
  Calls Try.prog 37 #[.string a0] w fun e w' => ∃ v0_ : Value, e = .returned (.tuple #[v0_, .bool r2]) ∧ Kd.R Kd.string 9 w' w.heap.size (fun _ => True) v0_ r1 ∧ Below w.heap.size w w' := by
 have HB := Aside0.mk (Below.refl w.heap.size w)
 have H : (if (a0.size : Int) > 254 then (name_Labels.j0 k ([] : List ByteArray) a0 true) else ((name_folded.f a0).bind fun t101 => (name_Labels.j0 k ([] : List ByteArray) a0 (a0.toList != t101.toList)))) = some (r1, r2) := h
 clear h
 have HC2 := Aside0.mk H
 clear H
 go_enter Try.func37, Try.ntmps37
 go_upto_region 3 with (fail)
 go_cut [16] (fun v16 wc => ∃ (kq : Nat) (x16_1 : Bool), v16 = .bool x16_1 ∧ Aside0 (name_Labels.j0 kq ([] : List ByteArray) a0 x16_1 = some (r1, r2)) ∧ Aside0 (kq ≤ k) ∧ Aside0 (Kd.R Kd.string 9 wc w.heap.size (fun _ => True) (.slice none 0 0) ([] : List ByteArray)) ∧ Aside0 (Below w.heap.size w wc))
 case first =>
  have H := HC2.out
  clear HC2
  by_cases c3 : (a0.size : Int) > 254
  ·rw [if_pos c3] at H
   have c3b0 : decide (254 < (a0.size : Int)) = true := decide_eq_true c3
   have c3b1 : decide (254 < a0.size) = true := decide_eq_true (by omega)
   clear c3
   (first | rw [c3b0] | (simp only [i64_w, i32_w]; rw [c3b0]) | skip)
   have H' := Aside0.mk H
   clear H
   go_wp2
   go_meet
   case rel => exact ⟨_, (true), (by first | rfl | (simp; done) | (simp [*]; done)), H', ⟨by first | omega | exact Nat.le_refl _⟩, ⟨by first | exact Kd.R_nil _ _ _ _ _ | exact Kd.N_nil _ _ _ _ _ | exact Kd.V_nil _ _ _ _ _ | exact Kd.Q_nil _ _ _ _ _ | exact Kd.S_nil _ _ _ _ _⟩, ⟨by repeat (first | (with_reducible first | exact HB.out | apply below_alloc | apply pw_below_drewN | apply below_drew1) | exact HB.out)⟩⟩
  ·rw [if_neg c3] at H
   have c3b0 : decide (254 < (a0.size : Int)) = false := decide_eq_false c3
   have c3b1 : decide (254 < a0.size) = false := decide_eq_false (by omega)
   clear c3
   (first | rw [c3b0] | (simp only [i64_w, i32_w]; rw [c3b0]) | skip)
   replace H := Option.bind_eq_some_iff.mp H
   obtain ⟨t101, A40, H⟩ := H
   replace H : (name_Labels.j0 k ([] : List ByteArray) a0 (a0.toList != t101.toList)) = some (r1, r2) := H
   have A4 := Aside0.mk A40
   clear A40
   have H' := Aside0.mk H
   clear H
   go_wp2_with (first | (go_at_call 46; (with_reducible refine (name_folded.calls a0 t101 _ A4.out).mono ?_); rintro e w5 ⟨rfl, hb⟩; have n0_ := Aside0.mk (below_step (by repeat (first | (with_reducible first | exact HB.out | apply below_alloc | apply pw_below_drewN | apply below_drew1) | exact HB.out)) hb); clear HB; have HB := n0_; clear n0_; (try clear hb); (try clear hb2); (try clear hk); (try clear hi)))
   go_meet
   case rel => exact ⟨_, ((a0.toList != t101.toList)), (by first | rfl | (simp; done) | (simp [*]; done)), H', ⟨by first | omega | exact Nat.le_refl _⟩, ⟨by first | exact Kd.R_nil _ _ _ _ _ | exact Kd.N_nil _ _ _ _ _ | exact Kd.V_nil _ _ _ _ _ | exact Kd.Q_nil _ _ _ _ _ | exact Kd.S_nil _ _ _ _ _⟩, ⟨by repeat (first | (with_reducible first | exact HB.out | apply below_alloc | apply pw_below_drewN | apply below_drew1) | exact HB.out)⟩⟩
 case rest =>
  clear HC2
  try clear p2
  try clear c3
  try clear c3b0
  try clear c3b1
  obtain ⟨kq, x16_1, rfl, HA, HJ1, HO_4, HB⟩ := hcut
  cases kq with
  | zero => exact absurd HA.out (by simp [name_Labels.j0])
  | succ kj1 =>
   have H := HA.out
   clear HA
   simp only [name_Labels.j0] at H
   by_cases c6 : x16_1 = true
   ·subst c6
    have H1 : (some (([] : List ByteArray), false)) = some (r1, r2) := by rw [if_pos rfl] at H; exact H
    clear H
    have H := H1
    clear H1
    simp only [Option.some.injEq, Prod.mk.injEq] at H
    obtain ⟨rfl, rfl⟩ := H
    go_wp2
    go_ret2
    exact ⟨_, by first | rfl | (simp [errW_none, errW_some] <;> rfl) | (simp [*, errW_none, errW_some] <;> rfl), by first | exact Kd.R_nil _ _ _ _ _ | exact Kd.N_nil _ _ _ _ _ | exact Kd.V_nil _ _ _ _ _ | exact Kd.Q_nil _ _ _ _ _ | exact Kd.S_nil _ _ _ _ _, by repeat (first | (with_reducible first | exact HB.out | apply below_alloc | apply pw_below_drewN | apply below_drew1) | exact HB.out)⟩
   ·replace c6 := Bool.eq_false_iff.mpr c6
    subst c6
    have H1 : (name_Labels.l0 kj1 ([] : List ByteArray) a0) = some (r1, r2) := by rw [if_neg (show ¬ (false = true) by decide)] at H; exact H
    clear H
    have H := H1
    clear H1
    have H' := Aside0.mk H
    clear H
    go_wp2
    go_loopg [4, 5] kj1 (fun kq v4 v5 w' => ∃ (x4_2 : List ByteArray) (x5_2 : ByteArray), v5 = .string x5_2 ∧ Aside0 (name_Labels.l0 kq x4_2 x5_2 = some (r1, r2)) ∧ Aside0 (kq ≤ kj1) ∧ Aside0 (Kd.R Kd.string 9 w' w.heap.size (fun _ => True) v4 x4_2) ∧ Aside0 (Below w.heap.size w w'))
    case atStart => exact ⟨(([] : List ByteArray)), (a0), (by first | rfl | (simp; done) | (simp [*]; done)), H', ⟨Nat.le_refl _⟩, ⟨by (with_reducible repeat (first | apply Kd.R_alloc | apply Kd.R_drewN | apply Kd.R_drew)); exact HO_4.out⟩, ⟨by repeat (first | (with_reducible first | exact HB.out | apply below_alloc | apply pw_below_drewN | apply below_drew1) | exact HB.out)⟩⟩
    case round =>
     clear H'
     try clear p2
     try clear c3
     try clear c3b0
     try clear c3b1
     try clear c6
     try clear p2
     obtain ⟨x4_2, x5_2, rfl, HA, HK2, HO_4, HB⟩ := hrel
     cases gk with
     | zero => exact absurd HA.out (by simp [name_Labels.l0])
     | succ k2 =>
      have H := HA.out
      clear HA
      simp only [name_Labels.l0] at H
      by_cases c7 : (x5_2.size : Int) > 0
      ·rw [if_pos c7] at H
       have c7b0 : decide (0 < (x5_2.size : Int)) = true := decide_eq_true c7
       have c7b1 : decide (0 < x5_2.size) = true := decide_eq_true (by omega)
       clear c7
       by_cases c8 : 0 < (x5_2.size : Int)
       ·rw [if_pos c8] at H
        have c8b0 : decide (0 < (x5_2.size : Int)) = true := decide_eq_true c8
        have c8b1 : decide (0 < x5_2.size) = true := decide_eq_true (by omega)
        clear c8
        by_cases c10 : (wrap64 (bt x5_2 0)) < 1
        ·rw [if_pos c10] at H
         have c10b0 : decide ((wrap64 (bt x5_2 0)) < 1) = true := decide_eq_true c10
         clear c10
         simp only [Option.some.injEq, Prod.mk.injEq] at H
         obtain ⟨rfl, rfl⟩ := H
         have p9 : 0 ≤ (0 : Int) := (by omega)
         have q9 : 0 < x5_2.size := (by have : (0 : Int) < (x5_2.size : Int) := of_decide_eq_true (by first | (with_reducible assumption) | assumption); omega)
         have hx9 : ∀ h : 0 < x5_2.size, ((x5_2[0]'h).toNat : Int) = bt x5_2 0 := bt_at x5_2 0
         clear p9
         have qi9 : (0 < (x5_2.size : Int)) = True := eq_true (of_decide_eq_true (by first | (with_reducible assumption) | assumption))
         replace q9 := eq_true q9
         go_wp2
         go_ret2
         exact ⟨_, by first | rfl | (simp [errW_none, errW_some] <;> rfl) | (simp [*, errW_none, errW_some] <;> rfl), by first | exact Kd.R_nil _ _ _ _ _ | exact Kd.N_nil _ _ _ _ _ | exact Kd.V_nil _ _ _ _ _ | exact Kd.Q_nil _ _ _ _ _ | exact Kd.S_nil _ _ _ _ _, by repeat (first | (with_reducible first | exact HB.out | apply below_alloc | apply pw_below_drewN | apply below_drew1) | exact HB.out)⟩
        ·rw [if_neg c10] at H
         have c10b0 : decide ((wrap64 (bt x5_2 0)) < 1) = false := decide_eq_false c10
         clear c10
         by_cases c11 : (wrap64 (bt x5_2 0)) > 63
         ·rw [if_pos c11] at H
          have c11b0 : decide (63 < (wrap64 (bt x5_2 0))) = true := decide_eq_true c11
          clear c11
          simp only [Option.some.injEq, Prod.mk.injEq] at H
          obtain ⟨rfl, rfl⟩ := H
          have p9 : 0 ≤ (0 : Int) := (by omega)
          have q9 : 0 < x5_2.size := (by have : (0 : Int) < (x5_2.size : Int) := of_decide_eq_true (by first | (with_reducible assumption) | assumption); omega)
          have hx9 : ∀ h : 0 < x5_2.size, ((x5_2[0]'h).toNat : Int) = bt x5_2 0 := bt_at x5_2 0
          clear p9
          have qi9 : (0 < (x5_2.size : Int)) = True := eq_true (of_decide_eq_true (by first | (with_reducible assumption) | assumption))
          replace q9 := eq_true q9
          go_wp2
          go_ret2
          exact ⟨_, by first | rfl | (simp [errW_none, errW_some] <;> rfl) | (simp [*, errW_none, errW_some] <;> rfl), by first | exact Kd.R_nil _ _ _ _ _ | exact Kd.N_nil _ _ _ _ _ | exact Kd.V_nil _ _ _ _ _ | exact Kd.Q_nil _ _ _ _ _ | exact Kd.S_nil _ _ _ _ _, by repeat (first | (with_reducible first | exact HB.out | apply below_alloc | apply pw_below_drewN | apply below_drew1) | exact HB.out)⟩
         ·rw [if_neg c11] at H
          have c11b0 : decide (63 < (wrap64 (bt x5_2 0))) = false := decide_eq_false c11
          clear c11
          by_cases c12 : (wrap64 (bt x5_2 0)) ≥ (x5_2.size : Int)
          ·rw [if_pos c12] at H
           have c12b0 : decide ((x5_2.size : Int) ≤ (wrap64 (bt x5_2 0))) = true := decide_eq_true c12
           clear c12
           simp only [Option.some.injEq, Prod.mk.injEq] at H
           obtain ⟨rfl, rfl⟩ := H
           have p9 : 0 ≤ (0 : Int) := (by omega)
           have q9 : 0 < x5_2.size := (by have : (0 : Int) < (x5_2.size : Int) := of_decide_eq_true (by first | (with_reducible assumption) | assumption); omega)
           have hx9 : ∀ h : 0 < x5_2.size, ((x5_2[0]'h).toNat : Int) = bt x5_2 0 := bt_at x5_2 0
           clear p9
           have qi9 : (0 < (x5_2.size : Int)) = True := eq_true (of_decide_eq_true (by first | (with_reducible assumption) | assumption))
           replace q9 := eq_true q9
           go_wp2
           go_ret2
           exact ⟨_, by first | rfl | (simp [errW_none, errW_some] <;> rfl) | (simp [*, errW_none, errW_some] <;> rfl), by first | exact Kd.R_nil _ _ _ _ _ | exact Kd.N_nil _ _ _ _ _ | exact Kd.V_nil _ _ _ _ _ | exact Kd.Q_nil _ _ _ _ _ | exact Kd.S_nil _ _ _ _ _, by repeat (first | (with_reducible first | exact HB.out | apply below_alloc | apply pw_below_drewN | apply below_drew1) | exact HB.out)⟩
          ·rw [if_neg c12] at H
           have c12b0 : decide ((x5_2.size : Int) ≤ (wrap64 (bt x5_2 0))) = false := decide_eq_false c12
           clear c12
           by_cases c13 : 1 ≤ (wrap64 (1 + (wrap64 (bt x5_2 0))))
           ·rw [if_pos c13] at H
            have c13b0 := eq_true c13
            have c13b1 : decide (1 ≤ (wrap64 (1 + (wrap64 (bt x5_2 0))))) = true := decide_eq_true c13
            by_cases c14 : (wrap64 (1 + (wrap64 (bt x5_2 0)))) ≤ (x5_2.size : Int)
            ·rw [if_pos c14] at H
             have c14b0 := eq_true c14
             have c14b1 : decide ((wrap64 (1 + (wrap64 (bt x5_2 0)))) ≤ (x5_2.size : Int)) = true := decide_eq_true c14
             by_cases c15 : x4_2.length < 8796093022208
             ·rw [if_pos c15] at H
              have LMc15 := Aside0.mk c15
              clear c15
              obtain ⟨y102, hy102⟩ : ∃ y_ : List ByteArray, y_ = (x4_2 ++ [x5_2.extract 1 ((wrap64 (1 + (wrap64 (bt x5_2 0)))) : Int).toNat]) := ⟨_, rfl⟩
              replace H : (if 0 ≤ (wrap64 (1 + (wrap64 (bt x5_2 0)))) then (name_Labels.l0 k2 y102 (x5_2.extract ((wrap64 (1 + (wrap64 (bt x5_2 0)))) : Int).toNat x5_2.size)) else (none)) = some (r1, r2) := by first | (rw [hy102]; with_reducible exact H) | (have H2_ := (Option.bind_some _ _).symm.trans H; rw [hy102]; with_reducible exact H2_) | (have H2_ := (Option.bind_some _ _).symm.trans H; with_reducible exact H2_) | with_reducible exact H | (rw [hy102]; exact H) | exact H
              have Ny102 := Aside0.mk hy102
              clear hy102
              obtain ⟨ji16, hji16⟩ : ∃ j_ : Int, (wrap64 (1 + (wrap64 (bt x5_2 0)))) = j_ := ⟨_, rfl⟩
              replace H : (if 0 ≤ (ji16) then (name_Labels.l0 k2 y102 (x5_2.extract ((ji16) : Int).toNat x5_2.size)) else (none)) = some (r1, r2) := by first | (rw [hji16] at H; exact H) | (simp only [hji16] at H ⊢; exact H)
              (try rw [hji16] at c13b0)
              (try rw [hji16] at c13b1)
              (try rw [hji16] at c13)
              (try rw [hji16] at c14b0)
              (try rw [hji16] at c14b1)
              (try rw [hji16] at c14)
              (try rw [hji16] at Ny102)
              have hji16w : (IntKind.i64.wrap (1 + (wrap64 (bt x5_2 0)))) = ji16 := (i64_w _).trans hji16
              by_cases c17 : 0 ≤ (ji16)
              ·rw [if_pos c17] at H
               have c17b0 := eq_true c17
               have c17b1 : decide (0 ≤ (ji16)) = true := decide_eq_true c17
               clear c17
               have c18b0 := eq_true (of_decide_eq_true (by first | (with_reducible assumption) | assumption) : (ji16) ≤ (x5_2.size : Int))
               have H' := Aside0.mk H
               clear H
               have p9 : 0 ≤ (0 : Int) := (by omega)
               have q9 : 0 < x5_2.size := (by have : (0 : Int) < (x5_2.size : Int) := of_decide_eq_true (by first | (with_reducible assumption) | assumption); omega)
               have hx9 : ∀ h : 0 < x5_2.size, ((x5_2[0]'h).toNat : Int) = bt x5_2 0 := bt_at x5_2 0
               clear p9
               have qi9 : (0 < (x5_2.size : Int)) = True := eq_true (of_decide_eq_true (by first | (with_reducible assumption) | assumption))
               replace q9 := eq_true q9
               go_wp2_with (first | ((with_reducible refine gate_builtin (b := .append) (xs := #[.tmp 35, .tmp 40]) rfl ?_); (try (refine gate_guard (by rfl) ?_; dsimp only)); at_builtin; refine Kd.R_append Kd.string (w0 := w) w.heap.size rfl (.tmp 35) (.tmp 40) 74 9 (.string ⟨#[]⟩) 16 rfl Try.underlying74 info9 rfl (by decide) (by omega) u4 x4_2 (x5_2.extract 1 ((ji16) : Int).toNat) [.string (x5_2.extract 1 ((ji16) : Int).toNat)] (fun _ => True) (fun _ => False) rfl rfl ?aP (fun _ hk => hk.elim) ?aF ?aO ?aB ?aS ?aL ?_; (case aP => exact rfl); (case aB => exact (by repeat (first | (with_reducible first | exact HB.out | apply below_alloc | apply pw_below_drewN | apply below_drew1) | exact HB.out))); (case aF => exact (fun _ _ => trivial)); (case aO => exact (by (with_reducible repeat (first | apply Kd.R_alloc | apply Kd.R_drewN | apply Kd.R_drew)); exact HO_4.out)); (case aS => exact (below_size (by repeat (first | (with_reducible first | exact HB.out | apply below_alloc | apply pw_below_drewN | apply below_drew1) | exact HB.out)))); (case aL => have := LMc15.out; omega); intro v103 w19 ho hb hg hat; rw [← Ny102.out] at ho; have n0_ := Aside0.mk (hb); have n1_ := Aside0.mk (ho); clear HB; clear HO_4; have HB := n0_; have HO104 := n1_; clear n0_ n1_; clear ho hb hg hat))
               go_roundg k2
               case measure => have := HJ1.out; have := HK2.out; omega
               case rel => exact ⟨(y102), (x5_2.extract ((ji16) : Int).toNat x5_2.size), (by first | rfl | (simp; done) | (simp only [← hji16] <;> (first | rfl | simp)) | (simp [*]; done)), H', ⟨by have := HJ1.out; have := HK2.out; omega⟩, ⟨by (with_reducible repeat (first | apply Kd.R_alloc | apply Kd.R_drewN | apply Kd.R_drew)); exact HO104.out⟩, ⟨by repeat (first | (with_reducible first | exact HB.out | apply below_alloc | apply pw_below_drewN | apply below_drew1) | exact HB.out)⟩⟩
              ·rw [if_neg c17] at H
               exact absurd H (by simp)
             ·rw [if_neg c15] at H
              exact absurd H (by simp)
            ·rw [if_neg c14] at H
             exact absurd H (by simp)
           ·rw [if_neg c13] at H
            exact absurd H (by simp)
       ·rw [if_neg c8] at H
        exact absurd H (by simp)
      ·rw [if_neg c7] at H
       have c7b0 : decide (0 < (x5_2.size : Int)) = false := decide_eq_false c7
       have c7b1 : decide (0 < x5_2.size) = false := decide_eq_false (by omega)
       clear c7
       simp only [Option.some.injEq, Prod.mk.injEq] at H
       obtain ⟨rfl, rfl⟩ := H
       go_wp2
       go_ret2
       exact ⟨_, by first | rfl | (simp [errW_none, errW_some] <;> rfl) | (simp [*, errW_none, errW_some] <;> rfl), by (with_reducible repeat (first | apply Kd.R_alloc | apply Kd.R_drewN | apply Kd.R_drew)); exact HO_4.out, by repeat (first | (with_reducible first | exact HB.out | apply below_alloc | apply pw_below_drewN | apply below_drew1) | exact HB.out)⟩

end Go.Proofs.Ytdkjlbbbdjkhbaa.PAll

namespace Go.Proofs.Ytdkjlbbbdjkhbaa.PAll
open Go.RowKit Go.Proofs.YtdkjlbbbdjkhbaaW.PrintWords Go.Proofs.YtdkjlbbbdjkhbaaW.PrintLast Go.Proofs.YtdkjlbbbdjkhbaaW.PrintMore
attribute [local go_sem] max2_int min2_int max_two min_two max_three min_three max_four min_four   -- for this text's walks alone
open Go.Proofs.Ytdkjlbbbdjkhbaa.Hand

/-! ### name_May: function 18 -/
def name_May.f (k : Nat) (a0 : ByteArray) : Option (Bool) := (name_Labels.f k a0).bind fun bt105 => (some bt105.2)
theorem name_May.mono : ∀ a0 k, LeO (name_May.f k a0) (name_May.f (k + 1) a0) := by
 intro a0 k
 unfold name_May.f
 repeat' first
   | (with_reducible exact name_Labels.mono _ _)
   | (with_reducible exact LeO.refl _)
   | (with_reducible exact LeO.none _)
   | (with_reducible refine LeO.ite ?_ ?_)
   | (with_reducible refine LeO.bind ?_ (fun _ => ?_))
   | exact name_Labels.mono _ _
   | exact LeO.none _
   | refine LeO.ite ?_ ?_
   | refine LeO.bind ?_ (fun _ => ?_)
set_option maxHeartbeats 8000000 in
set_option maxRecDepth 100000 in
theorem name_May.calls (k : Nat) (a0 : ByteArray) (r : Bool) (w : World) (h : name_May.f k a0 = some r) :
  Calls Try.prog 18 #[.string a0] w fun e w' => e = .returned (.bool r) ∧ Below w.heap.size w w' := by
 have HB := Aside0.mk (Below.refl w.heap.size w)
 have H : ((name_Labels.f k a0).bind fun bt105 => (some bt105.2)) = some r := h
 clear h
 replace H := Option.bind_eq_some_iff.mp H
 obtain ⟨⟨t105, t106⟩, A20, H⟩ := H
 replace H : (some t106) = some r := H
 have A2 := Aside0.mk A20
 clear A20
 obtain rfl := Option.some.inj H
 go_enter Try.func18, Try.ntmps18
 go_wp2_with (first | ((with_reducible refine gate_callee (f := 37) rfl ?_); refine goesL_ (some 7) rfl rfl Try.func37 (by kernel_rfl) rfl #[.string a0] rfl (by (try simp only [List.map_toArray, List.map_cons, List.map_nil]); first | done | rfl | (simp only [List.length_drop, List.length_take]; rfl)) ?_; (with_reducible refine (name_Labels.calls k a0 t105 t106 _ A2.out).mono ?_); rintro e w3 ⟨v107, rfl, ho0, hb⟩; refine ⟨_, rfl, ?_⟩; have n0_ := Aside0.mk (Kd.R_lower ho0 (below_size (by repeat (first | (with_reducible first | exact HB.out | apply below_alloc | apply pw_below_drewN | apply below_drew1) | exact HB.out)))); have n1_ := Aside0.mk (below_step (by repeat (first | (with_reducible first | exact HB.out | apply below_alloc | apply pw_below_drewN | apply below_drew1) | exact HB.out)) hb); clear HB; have HO108 := n0_; have HB := n1_; clear n0_ n1_; (try clear hb); (try clear hb2); (try clear hk); (try clear hi); (try clear ho0)))
 go_ret
 exact ⟨by first | rfl | (simp [errW_none, errW_some] <;> rfl) | (simp [*, errW_none, errW_some] <;> rfl), by repeat (first | (with_reducible first | exact HB.out | apply below_alloc | apply pw_below_drewN | apply below_drew1) | exact HB.out)⟩

end Go.Proofs.Ytdkjlbbbdjkhbaa.PAll

namespace Go.Proofs.Ytdkjlbbbdjkhbaa.PAll
open Go.RowKit Go.Proofs.YtdkjlbbbdjkhbaaW.PrintWords Go.Proofs.YtdkjlbbbdjkhbaaW.PrintLast Go.Proofs.YtdkjlbbbdjkhbaaW.PrintMore
attribute [local go_sem] max2_int min2_int max_two min_two max_three min_three max_four min_four   -- for this text's walks alone
open Go.Proofs.Ytdkjlbbbdjkhbaa.Hand

/-! ### name_Join: function 39 -/
def name_Join.f (k : Nat) (a0 : ByteArray) (a1 : ByteArray) : Option (ByteArray × Bool) := (name_May.f k a0).bind fun t109 => (if t109 = true then ((name_May.f k a1).bind fun t110 => (if t110 = true then (if (wrap64 ((a0.size : Int) + (a1.size : Int))) > 254 then (some ((⟨#[]⟩ : ByteArray), false)) else (if a0.size + a1.size ≤ 9223372036854775807 then (some (a0 ++ a1, true)) else (none))) else (some ((⟨#[]⟩ : ByteArray), false)))) else (some ((⟨#[]⟩ : ByteArray), false)))
theorem name_Join.mono : ∀ a0 a1 k, LeO (name_Join.f k a0 a1) (name_Join.f (k + 1) a0 a1) := by
 intro a0 a1 k
 unfold name_Join.f
 repeat' first
   | (with_reducible exact name_May.mono _ _)
   | (with_reducible exact LeO.refl _)
   | (with_reducible exact LeO.none _)
   | (with_reducible refine LeO.ite ?_ ?_)
   | (with_reducible refine LeO.bind ?_ (fun _ => ?_))
   | exact name_May.mono _ _
   | exact LeO.none _
   | refine LeO.ite ?_ ?_
   | refine LeO.bind ?_ (fun _ => ?_)
set_option maxHeartbeats 8000000 in
set_option maxRecDepth 100000 in
theorem name_Join.calls (k : Nat) (a0 : ByteArray) (a1 : ByteArray) (r1 : ByteArray) (r2 : Bool) (w : World) (h : name_Join.f k a0 a1 = some (r1, r2)) :
  Calls Try.prog 39 #[.string a0, .string a1] w fun e w' => e = .returned (.tuple #[.string r1, .bool r2]) ∧ Below w.heap.size w w' := by
 have HB := Aside0.mk (Below.refl w.heap.size w)
 have H : ((name_May.f k a0).bind fun t109 => (if t109 = true then ((name_May.f k a1).bind fun t110 => (if t110 = true then (if (wrap64 ((a0.size : Int) + (a1.size : Int))) > 254 then (some ((⟨#[]⟩ : ByteArray), false)) else (if a0.size + a1.size ≤ 9223372036854775807 then (some (a0 ++ a1, true)) else (none))) else (some ((⟨#[]⟩ : ByteArray), false)))) else (some ((⟨#[]⟩ : ByteArray), false)))) = some (r1, r2) := h
 clear h
 replace H := Option.bind_eq_some_iff.mp H
 obtain ⟨t109, A30, H⟩ := H
 replace H : (if t109 = true then ((name_May.f k a1).bind fun t110 => (if t110 = true then (if (wrap64 ((a0.size : Int) + (a1.size : Int))) > 254 then (some ((⟨#[]⟩ : ByteArray), false)) else (if a0.size + a1.size ≤ 9223372036854775807 then (some (a0 ++ a1, true)) else (none))) else (some ((⟨#[]⟩ : ByteArray), false)))) else (some ((⟨#[]⟩ : ByteArray), false))) = some (r1, r2) := H
 have A3 := Aside0.mk A30
 clear A30
 by_cases c4 : t109 = true
 ·subst c4
  have H1 : ((name_May.f k a1).bind fun t110 => (if t110 = true then (if (wrap64 ((a0.size : Int) + (a1.size : Int))) > 254 then (some ((⟨#[]⟩ : ByteArray), false)) else (if a0.size + a1.size ≤ 9223372036854775807 then (some (a0 ++ a1, true)) else (none))) else (some ((⟨#[]⟩ : ByteArray), false)))) = some (r1, r2) := by rw [if_pos rfl] at H; exact H
  clear H
  have H := H1
  clear H1
  replace H := Option.bind_eq_some_iff.mp H
  obtain ⟨t110, A50, H⟩ := H
  replace H : (if t110 = true then (if (wrap64 ((a0.size : Int) + (a1.size : Int))) > 254 then (some ((⟨#[]⟩ : ByteArray), false)) else (if a0.size + a1.size ≤ 9223372036854775807 then (some (a0 ++ a1, true)) else (none))) else (some ((⟨#[]⟩ : ByteArray), false))) = some (r1, r2) := H
  have A5 := Aside0.mk A50
  clear A50
  by_cases c6 : t110 = true
  ·subst c6
   have H1 : (if (wrap64 ((a0.size : Int) + (a1.size : Int))) > 254 then (some ((⟨#[]⟩ : ByteArray), false)) else (if a0.size + a1.size ≤ 9223372036854775807 then (some (a0 ++ a1, true)) else (none))) = some (r1, r2) := by rw [if_pos rfl] at H; exact H
   clear H
   have H := H1
   clear H1
   by_cases c7 : (wrap64 ((a0.size : Int) + (a1.size : Int))) > 254
   ·rw [if_pos c7] at H
    have c7b0 : decide (254 < (wrap64 ((a0.size : Int) + (a1.size : Int)))) = true := decide_eq_true c7
    clear c7
    simp only [Option.some.injEq, Prod.mk.injEq] at H
    obtain ⟨rfl, rfl⟩ := H
    go_enter Try.func39, Try.ntmps39
    go_wp2_with (first | ((with_reducible refine gate_callee (f := 18) rfl ?_); refine goesL_ (some 7) rfl rfl Try.func18 (by kernel_rfl) rfl #[.string a0] rfl (by (try simp only [List.map_toArray, List.map_cons, List.map_nil]); first | done | rfl | (simp only [List.length_drop, List.length_take]; rfl)) ?_; (with_reducible refine (name_May.calls k a0 true _ A3.out).mono ?_); rintro e w8 ⟨rfl, hb⟩; refine ⟨_, rfl, ?_⟩; have n0_ := Aside0.mk (below_step (by repeat (first | (with_reducible first | exact HB.out | apply below_alloc | apply pw_below_drewN | apply below_drew1) | exact HB.out)) hb); clear HB; have HB := n0_; clear n0_; (try clear hb); (try clear hb2); (try clear hk); (try clear hi)) | (go_at_call 18; (with_reducible refine (name_May.calls k a1 true _ A5.out).mono ?_); rintro e w9 ⟨rfl, hb⟩; have n0_ := Aside0.mk (below_step (by repeat (first | (with_reducible first | exact HB.out | apply below_alloc | apply pw_below_drewN | apply below_drew1) | exact HB.out)) hb); clear HB; have HB := n0_; clear n0_; (try clear hb); (try clear hb2); (try clear hk); (try clear hi)))
    go_ret2
    exact ⟨by first | rfl | (simp [errW_none, errW_some] <;> rfl) | (simp [*, errW_none, errW_some] <;> rfl), by repeat (first | (with_reducible first | exact HB.out | apply below_alloc | apply pw_below_drewN | apply below_drew1) | exact HB.out)⟩
   ·rw [if_neg c7] at H
    have c7b0 : decide (254 < (wrap64 ((a0.size : Int) + (a1.size : Int)))) = false := decide_eq_false c7
    clear c7
    by_cases c10 : a0.size + a1.size ≤ 9223372036854775807
    ·rw [if_pos c10] at H
     have c10b0 := eq_true c10
     have c10b1 : decide (a0.size + a1.size ≤ 9223372036854775807) = true := decide_eq_true c10
     try have c10b2 : (9223372036854775807 < a0.size + a1.size) = False := eq_false (Nat.not_lt.2 c10)
     have c7x : ¬ (254 : Int) < (a0.size : Int) + (a1.size : Int) := by
      have h7 := of_decide_eq_false c7b0
      have h8 := of_decide_eq_true c10b1
      unfold wrap64 at h7
      omega
     have c7y : decide ((254 : Int) < (a0.size : Int) + (a1.size : Int)) = false := decide_eq_false c7x
     simp only [Option.some.injEq, Prod.mk.injEq] at H
     obtain ⟨rfl, rfl⟩ := H
     go_enter Try.func39, Try.ntmps39
     go_wp2_with (first | ((with_reducible refine gate_callee (f := 18) rfl ?_); refine goesL_ (some 7) rfl rfl Try.func18 (by kernel_rfl) rfl #[.string a0] rfl (by (try simp only [List.map_toArray, List.map_cons, List.map_nil]); first | done | rfl | (simp only [List.length_drop, List.length_take]; rfl)) ?_; (with_reducible refine (name_May.calls k a0 true _ A3.out).mono ?_); rintro e w11 ⟨rfl, hb⟩; refine ⟨_, rfl, ?_⟩; have n0_ := Aside0.mk (below_step (by repeat (first | (with_reducible first | exact HB.out | apply below_alloc | apply pw_below_drewN | apply below_drew1) | exact HB.out)) hb); clear HB; have HB := n0_; clear n0_; (try clear hb); (try clear hb2); (try clear hk); (try clear hi)) | (go_at_call 18; (with_reducible refine (name_May.calls k a1 true _ A5.out).mono ?_); rintro e w12 ⟨rfl, hb⟩; have n0_ := Aside0.mk (below_step (by repeat (first | (with_reducible first | exact HB.out | apply below_alloc | apply pw_below_drewN | apply below_drew1) | exact HB.out)) hb); clear HB; have HB := n0_; clear n0_; (try clear hb); (try clear hb2); (try clear hk); (try clear hi)))
     go_ret2
     exact ⟨by first | rfl | (simp [errW_none, errW_some] <;> rfl) | (simp [*, errW_none, errW_some] <;> rfl), by repeat (first | (with_reducible first | exact HB.out | apply below_alloc | apply pw_below_drewN | apply below_drew1) | exact HB.out)⟩
    ·rw [if_neg c10] at H
     exact absurd H (by simp)
  ·replace c6 := Bool.eq_false_iff.mpr c6
   subst c6
   have H1 : (some ((⟨#[]⟩ : ByteArray), false)) = some (r1, r2) := by rw [if_neg (show ¬ (false = true) by decide)] at H; exact H
   clear H
   have H := H1
   clear H1
   simp only [Option.some.injEq, Prod.mk.injEq] at H
   obtain ⟨rfl, rfl⟩ := H
   go_enter Try.func39, Try.ntmps39
   go_wp2_with (first | ((with_reducible refine gate_callee (f := 18) rfl ?_); refine goesL_ (some 7) rfl rfl Try.func18 (by kernel_rfl) rfl #[.string a0] rfl (by (try simp only [List.map_toArray, List.map_cons, List.map_nil]); first | done | rfl | (simp only [List.length_drop, List.length_take]; rfl)) ?_; (with_reducible refine (name_May.calls k a0 true _ A3.out).mono ?_); rintro e w13 ⟨rfl, hb⟩; refine ⟨_, rfl, ?_⟩; have n0_ := Aside0.mk (below_step (by repeat (first | (with_reducible first | exact HB.out | apply below_alloc | apply pw_below_drewN | apply below_drew1) | exact HB.out)) hb); clear HB; have HB := n0_; clear n0_; (try clear hb); (try clear hb2); (try clear hk); (try clear hi)) | (go_at_call 18; (with_reducible refine (name_May.calls k a1 false _ A5.out).mono ?_); rintro e w14 ⟨rfl, hb⟩; have n0_ := Aside0.mk (below_step (by repeat (first | (with_reducible first | exact HB.out | apply below_alloc | apply pw_below_drewN | apply below_drew1) | exact HB.out)) hb); clear HB; have HB := n0_; clear n0_; (try clear hb); (try clear hb2); (try clear hk); (try clear hi)))
   go_ret2
   exact ⟨by first | rfl | (simp [errW_none, errW_some] <;> rfl) | (simp [*, errW_none, errW_some] <;> rfl), by repeat (first | (with_reducible first | exact HB.out | apply below_alloc | apply pw_below_drewN | apply below_drew1) | exact HB.out)⟩
 ·replace c4 := Bool.eq_false_iff.mpr c4
  subst c4
  have H1 : (some ((⟨#[]⟩ : ByteArray), false)) = some (r1, r2) := by rw [if_neg (show ¬ (false = true) by decide)] at H; exact H
  clear H
  have H := H1
  clear H1
  simp only [Option.some.injEq, Prod.mk.injEq] at H
  obtain ⟨rfl, rfl⟩ := H
  go_enter Try.func39, Try.ntmps39
  go_wp2_with (first | ((with_reducible refine gate_callee (f := 18) rfl ?_); refine goesL_ (some 7) rfl rfl Try.func18 (by kernel_rfl) rfl #[.string a0] rfl (by (try simp only [List.map_toArray, List.map_cons, List.map_nil]); first | done | rfl | (simp only [List.length_drop, List.length_take]; rfl)) ?_; (with_reducible refine (name_May.calls k a0 false _ A3.out).mono ?_); rintro e w15 ⟨rfl, hb⟩; refine ⟨_, rfl, ?_⟩; have n0_ := Aside0.mk (below_step (by repeat (first | (with_reducible first | exact HB.out | apply below_alloc | apply pw_below_drewN | apply below_drew1) | exact HB.out)) hb); clear HB; have HB := n0_; clear n0_; (try clear hb); (try clear hb2); (try clear hk); (try clear hi)))
  go_ret2
  exact ⟨by first | rfl | (simp [errW_none, errW_some] <;> rfl) | (simp [*, errW_none, errW_some] <;> rfl), by repeat (first | (with_reducible first | exact HB.out | apply below_alloc | apply pw_below_drewN | apply below_drew1) | exact HB.out)⟩

end Go.Proofs.Ytdkjlbbbdjkhbaa.PAll

namespace Go.Proofs.Ytdkjlbbbdjkhbaa.PAll
open Go.RowKit Go.Proofs.YtdkjlbbbdjkhbaaW.PrintWords Go.Proofs.YtdkjlbbbdjkhbaaW.PrintLast Go.Proofs.YtdkjlbbbdjkhbaaW.PrintMore
attribute [local go_sem] max2_int min2_int max_two min_two max_three min_three max_four min_four   -- for this text's walks alone
open Go.Proofs.Ytdkjlbbbdjkhbaa.Hand

/-! ### action_Goal: function 17 -/
def action_Goal.j0 : Nat → ByteArray → Bool → Int → ByteArray → Bool → List (S43) → Option (ByteArray × Bool)
 | 0, _, _, _, _, _, _ => none
 | k + 1, x1, x6, x112000, x112001, x112002, x112003 => if x6 = true then (some ((⟨#[]⟩ : ByteArray), false)) else (if x112002 = true then ((name_Join.f k x1 x112001).bind fun bt113 => (some (bt113.1, bt113.2))) else (some (x112001, true)))
def action_Goal.f (k : Nat) (a0_0 : Int) (a0_1 : ByteArray) (a0_2 : Bool) (l0_3 : List (S43)) (a1 : ByteArray) : Option (ByteArray × Bool) := if a0_0 = 7 then ((name_May.f k a0_1).bind fun t112 => (action_Goal.j0 k a1 (!t112) a0_0 a0_1 a0_2 l0_3)) else (action_Goal.j0 k a1 true a0_0 a0_1 a0_2 l0_3)
theorem action_Goal.mono_l : ∀ k, (∀ y0 y1 y2 y3 y4 y5, LeO (action_Goal.j0 k y0 y1 y2 y3 y4 y5) (action_Goal.j0 (k + 1) y0 y1 y2 y3 y4 y5))
 | 0 => fun _ _ _ _ _ _ r h => by simp [action_Goal.j0] at h
 | k + 1 => by
  have ih0 := action_Goal.mono_l k
  ·intro y0 y1 y2 y3 y4 y5
   unfold action_Goal.j0
   repeat' first
   | (with_reducible exact ih0 _ _ _ _ _ _)
   | (with_reducible exact name_Join.mono _ _ _)
   | (with_reducible exact name_May.mono _ _)
   | (with_reducible exact LeO.refl _)
   | (with_reducible exact LeO.none _)
   | (with_reducible refine LeO.ite ?_ ?_)
   | (with_reducible refine LeO.bind ?_ (fun _ => ?_))
   | exact ih0 _ _ _ _ _ _
   | exact name_Join.mono _ _ _
   | exact name_May.mono _ _
   | exact LeO.none _
   | refine LeO.ite ?_ ?_
   | refine LeO.bind ?_ (fun _ => ?_)
theorem action_Goal.mono : ∀ a0 a1 a2 a3 a4 k, LeO (action_Goal.f k a0 a1 a2 a3 a4) (action_Goal.f (k + 1) a0 a1 a2 a3 a4) := by
 intro a0 a1 a2 a3 a4 k
 have ih0 := action_Goal.mono_l k
 unfold action_Goal.f
 repeat' first
   | (with_reducible exact ih0 _ _ _ _ _ _)
   | (with_reducible exact name_Join.mono _ _ _)
   | (with_reducible exact name_May.mono _ _)
   | (with_reducible exact LeO.refl _)
   | (with_reducible exact LeO.none _)
   | (with_reducible refine LeO.ite ?_ ?_)
   | (with_reducible refine LeO.bind ?_ (fun _ => ?_))
   | exact ih0 _ _ _ _ _ _
   | exact name_Join.mono _ _ _
   | exact name_May.mono _ _
   | exact LeO.none _
   | refine LeO.ite ?_ ?_
   | refine LeO.bind ?_ (fun _ => ?_)
set_option maxHeartbeats 8000000 in
set_option maxRecDepth 100000 in
theorem action_Goal.calls (k : Nat) (a0_0 : Int) (a0_1 : ByteArray) (a0_2 : Bool) (A0_3 : Option Addr) (c0_3 : Nat) (l0_3 : List (S43)) (a1 : ByteArray) (r1 : ByteArray) (r2 : Bool) (w : World) (hr0_3 : Kd.C k43 w A0_3 l0_3.length l0_3) (hc0_3 : l0_3.length ≤ c0_3) (h : action_Goal.f k a0_0 a0_1 a0_2 l0_3 a1 = some (r1, r2)) :
  Calls Try.prog 17 #[.agg #[.int .i64 a0_0, .string a0_1, .bool a0_2, .slice A0_3 l0_3.length c0_3], .string a1] w fun e w' => e = .returned (.tuple #[.string r1, .bool r2]) ∧ Below w.heap.size w w' := by
 have hu28 := Try.underlying28
 have HR0_3 := Aside0.mk hr0_3
 have HC0_3 := Aside0.mk hc0_3
 clear hr0_3 hc0_3
 have HB := Aside0.mk (Below.refl w.heap.size w)
 have H : (if a0_0 = 7 then ((name_May.f k a0_1).bind fun t112 => (action_Goal.j0 k a1 (!t112) a0_0 a0_1 a0_2 l0_3)) else (action_Goal.j0 k a1 true a0_0 a0_1 a0_2 l0_3)) = some (r1, r2) := h
 clear h
 have HC3 := Aside0.mk H
 clear H
 go_enter Try.func17, Try.ntmps17
 go_upto_region 1 with (first | ((with_reducible refine gate_dst (N := 2) rfl ?_); refine box_event ?hg (N := 2) ?hd (cs := #[.int .i64 a0_0, .string a0_1, .bool a0_2, .slice A0_3 l0_3.length c0_3]) (t := 28) ?hr ?_; (case hd => rfl); (case hg => rfl); (case hr => first | (go_simp; done) | (go_simp; rfl)); intro gb111 hg w4 hbox hb; have n0_ := Aside0.mk (below_step (by repeat (first | (with_reducible first | exact HB.out | apply below_alloc | apply pw_below_drewN | apply below_drew1) | exact HB.out)) hb); have n1_ := Aside0.mk (hbox); have n2_ := Aside0.mk ((by rw [hg]; exact (below_size (by repeat (first | (with_reducible first | exact HB.out | apply below_alloc | apply pw_below_drewN | apply below_drew1) | exact HB.out))) : w.heap.size ≤ gb111)); have n3_ := Aside0.mk ((by rw [hg]; exact (below_size (by repeat (first | (with_reducible first | exact HB.out | apply below_alloc | apply pw_below_drewN | apply below_drew1) | exact HB.out))) : w.heap.size ≤ gb111)); clear HB; have HB := n0_; have BK111 := n1_; have GW111 := n2_; have GE111 := n3_; clear n0_ n1_ n2_ n3_; clear hb hbox hg))
 (try simp only [Act.put, List.setIfInBounds_toArray, List.set_cons_zero, List.set_cons_succ])
 go_cut [6] (fun v6 wc => ∃ (kq : Nat) (x6_2 : Bool), v6 = .bool x6_2 ∧ Aside0 (action_Goal.j0 kq a1 x6_2 a0_0 a0_1 a0_2 l0_3 = some (r1, r2)) ∧ Aside0 (kq ≤ k) ∧ Aside0 (wc.heap[gb111]? = some (.cells #[.int .i64 a0_0, .string a0_1, .bool a0_2, (.slice A0_3 l0_3.length c0_3)] 28 (0, 0))) ∧ Aside0 (Below w.heap.size w wc))
 case first =>
  have H := HC3.out
  clear HC3
  by_cases c5 : a0_0 = 7
  ·rw [if_pos c5] at H
   have c5b0 : (a0_0 == 7) = true := beq_iff_eq.mpr c5
   have c5b1 : (a0_0 != 7) = false := bne_eq_false_iff_eq.mpr c5
   clear c5
   (first | rw [c5b0] | (simp only [i64_w, i32_w]; rw [c5b0]) | skip)
   replace H := Option.bind_eq_some_iff.mp H
   obtain ⟨t112, A60, H⟩ := H
   replace H : (action_Goal.j0 k a1 (!t112) a0_0 a0_1 a0_2 l0_3) = some (r1, r2) := H
   have A6 := Aside0.mk A60
   clear A60
   have H' := Aside0.mk H
   clear H
   have hcz7_0 : w4.cell? ⟨gb111, 0, none⟩ = some (.int .i64 a0_0) := (blk_cell BK111.out 0).trans rfl
   have hcz7_1 : w4.cell? ⟨gb111, 1, none⟩ = some (.string a0_1) := (blk_cell BK111.out 1).trans rfl
   have hcz7_2 : w4.cell? ⟨gb111, 2, none⟩ = some (.bool a0_2) := (blk_cell BK111.out 2).trans rfl
   have hcz7_3 : w4.cell? ⟨gb111, 3, none⟩ = some (.slice A0_3 l0_3.length c0_3) := (blk_cell BK111.out 3).trans rfl
   have hfz7_0 := blk_frozen BK111.out 0
   have hfz7_1 := blk_frozen BK111.out 1
   have hfz7_2 := blk_frozen BK111.out 2
   have hfz7_3 := blk_frozen BK111.out 3
   go_wp2_with (first | (go_at_call 18; (with_reducible refine (name_May.calls k a0_1 t112 _ A6.out).mono ?_); rintro e w8 ⟨rfl, hb⟩; have n0_ := Aside0.mk (blk_below (g := gb111) (o := .cells #[.int .i64 a0_0, .string a0_1, .bool a0_2, .slice A0_3 l0_3.length c0_3] 28 (0, 0)) (by (with_reducible repeat (first | refine blk_drewN ?_ _ | refine blk_drew ?_ | refine blk_alloc ?_ _)); exact BK111.out) hb); have n1_ := Aside0.mk (below_step (by repeat (first | (with_reducible first | exact HB.out | apply below_alloc | apply pw_below_drewN | apply below_drew1 | refine below_set ?_ GE111.out) | exact HB.out)) hb); clear BK111; clear HB; have BK111 := n0_; have HB := n1_; clear n0_ n1_; (try clear hb); (try clear hb2); (try clear hk); (try clear hi)))
   go_meet
   case rel => exact ⟨_, (!t112), (by first | rfl | (simp; done) | (simp [*]; done)), H', ⟨by first | omega | exact Nat.le_refl _⟩, ⟨by (with_reducible repeat (first | refine blk_drewN ?_ _ | refine blk_drew ?_ | refine blk_alloc ?_ _)); exact BK111.out⟩, ⟨by repeat (first | (with_reducible first | exact HB.out | apply below_alloc | apply pw_below_drewN | apply below_drew1 | refine below_set ?_ GE111.out) | exact HB.out)⟩⟩
  ·rw [if_neg c5] at H
   have c5b0 : (a0_0 == 7) = false := beq_eq_false_iff_ne.mpr c5
   have c5b1 : (a0_0 != 7) = true := bne_iff_ne.mpr c5
   (first | rw [c5b0] | (simp only [i64_w, i32_w]; rw [c5b0]) | skip)
   have H' := Aside0.mk H
   clear H
   have hcz9_0 : w4.cell? ⟨gb111, 0, none⟩ = some (.int .i64 a0_0) := (blk_cell BK111.out 0).trans rfl
   have hcz9_1 : w4.cell? ⟨gb111, 1, none⟩ = some (.string a0_1) := (blk_cell BK111.out 1).trans rfl
   have hcz9_2 : w4.cell? ⟨gb111, 2, none⟩ = some (.bool a0_2) := (blk_cell BK111.out 2).trans rfl
   have hcz9_3 : w4.cell? ⟨gb111, 3, none⟩ = some (.slice A0_3 l0_3.length c0_3) := (blk_cell BK111.out 3).trans rfl
   have hfz9_0 := blk_frozen BK111.out 0
   have hfz9_1 := blk_frozen BK111.out 1
   have hfz9_2 := blk_frozen BK111.out 2
   have hfz9_3 := blk_frozen BK111.out 3
   go_wp2
   go_meet
   case rel => exact ⟨_, (true), (by first | rfl | (simp; done) | (simp [*]; done)), H', ⟨by first | omega | exact Nat.le_refl _⟩, ⟨by (with_reducible repeat (first | refine blk_drewN ?_ _ | refine blk_drew ?_ | refine blk_alloc ?_ _)); exact BK111.out⟩, ⟨by repeat (first | (with_reducible first | exact HB.out | apply below_alloc | apply pw_below_drewN | apply below_drew1 | refine below_set ?_ GE111.out) | exact HB.out)⟩⟩
 case rest =>
  clear HC3
  try clear c1
  try clear p2
  try clear c5
  try clear c5b0
  try clear c5b1
  try clear hcz7_0
  try clear hcz7_1
  try clear hcz7_2
  try clear hcz7_3
  try clear hcz9_0
  try clear hcz9_1
  try clear hcz9_2
  try clear hcz9_3
  try clear hfz7_0
  try clear hfz7_1
  try clear hfz7_2
  try clear hfz7_3
  try clear hfz9_0
  try clear hfz9_1
  try clear hfz9_2
  try clear hfz9_3
  obtain ⟨kq, x6_2, rfl, HA, HJ2, BK111, HB⟩ := hcut
  cases kq with
  | zero => exact absurd HA.out (by simp [action_Goal.j0])
  | succ kj2 =>
   have H := HA.out
   clear HA
   simp only [action_Goal.j0] at H
   by_cases c10 : x6_2 = true
   ·subst c10
    have H1 : (some ((⟨#[]⟩ : ByteArray), false)) = some (r1, r2) := by rw [if_pos rfl] at H; exact H
    clear H
    have H := H1
    clear H1
    simp only [Option.some.injEq, Prod.mk.injEq] at H
    obtain ⟨rfl, rfl⟩ := H
    go_wp2
    go_ret2
    exact ⟨by first | rfl | (simp [errW_none, errW_some] <;> rfl) | (simp [*, errW_none, errW_some] <;> rfl), by repeat (first | (with_reducible first | exact HB.out | apply below_alloc | apply pw_below_drewN | apply below_drew1 | refine below_set ?_ GE111.out) | exact HB.out)⟩
   ·replace c10 := Bool.eq_false_iff.mpr c10
    subst c10
    have H1 : (if a0_2 = true then ((name_Join.f kj2 a1 a0_1).bind fun bt113 => (some (bt113.1, bt113.2))) else (some (a0_1, true))) = some (r1, r2) := by rw [if_neg (show ¬ (false = true) by decide)] at H; exact H
    clear H
    have H := H1
    clear H1
    by_cases c11 : a0_2 = true
    ·subst c11
     have H1 : ((name_Join.f kj2 a1 a0_1).bind fun bt113 => (some (bt113.1, bt113.2))) = some (r1, r2) := by rw [if_pos rfl] at H; exact H
     clear H
     have H := H1
     clear H1
     replace H := Option.bind_eq_some_iff.mp H
     obtain ⟨⟨t113, t114⟩, A120, H⟩ := H
     replace H : (some (t113, t114)) = some (r1, r2) := H
     have A12 := Aside0.mk A120
     clear A120
     simp only [Option.some.injEq, Prod.mk.injEq] at H
     obtain ⟨rfl, rfl⟩ := H
     have hcz13_0 : wc.cell? ⟨gb111, 0, none⟩ = some (.int .i64 a0_0) := (blk_cell BK111.out 0).trans rfl
     have hcz13_1 : wc.cell? ⟨gb111, 1, none⟩ = some (.string a0_1) := (blk_cell BK111.out 1).trans rfl
     have hcz13_2 : wc.cell? ⟨gb111, 2, none⟩ = some (.bool true) := (blk_cell BK111.out 2).trans rfl
     have hcz13_3 : wc.cell? ⟨gb111, 3, none⟩ = some (.slice A0_3 l0_3.length c0_3) := (blk_cell BK111.out 3).trans rfl
     have hfz13_0 := blk_frozen BK111.out 0
     have hfz13_1 := blk_frozen BK111.out 1
     have hfz13_2 := blk_frozen BK111.out 2
     have hfz13_3 := blk_frozen BK111.out 3
     go_wp2_with (first | ((with_reducible refine gate_callee (f := 39) rfl ?_); refine goesL_ (some 22) rfl rfl Try.func39 (by kernel_rfl) rfl #[.string a1, .string a0_1] rfl (by (try simp only [List.map_toArray, List.map_cons, List.map_nil]); first | done | rfl | (simp only [List.length_drop, List.length_take]; rfl)) ?_; (with_reducible refine (name_Join.calls kj2 a1 a0_1 t113 t114 _ A12.out).mono ?_); rintro e w14 ⟨rfl, hb⟩; refine ⟨_, rfl, ?_⟩; have n0_ := Aside0.mk (blk_below (g := gb111) (o := .cells #[.int .i64 a0_0, .string a0_1, .bool true, .slice A0_3 l0_3.length c0_3] 28 (0, 0)) (by (with_reducible repeat (first | refine blk_drewN ?_ _ | refine blk_drew ?_ | refine blk_alloc ?_ _)); exact BK111.out) hb); have n1_ := Aside0.mk (below_step (by repeat (first | (with_reducible first | exact HB.out | apply below_alloc | apply pw_below_drewN | apply below_drew1 | refine below_set ?_ GE111.out) | exact HB.out)) hb); clear BK111; clear HB; have BK111 := n0_; have HB := n1_; clear n0_ n1_; (try clear hb); (try clear hb2); (try clear hk); (try clear hi)))
     go_ret2
     exact ⟨by first | rfl | (simp [errW_none, errW_some] <;> rfl) | (simp [*, errW_none, errW_some] <;> rfl), by repeat (first | (with_reducible first | exact HB.out | apply below_alloc | apply pw_below_drewN | apply below_drew1 | refine below_set ?_ GE111.out) | exact HB.out)⟩
    ·replace c11 := Bool.eq_false_iff.mpr c11
     subst c11
     have H1 : (some (a0_1, true)) = some (r1, r2) := by rw [if_neg (show ¬ (false = true) by decide)] at H; exact H
     clear H
     have H := H1
     clear H1
     simp only [Option.some.injEq, Prod.mk.injEq] at H
     obtain ⟨rfl, rfl⟩ := H
     have hcz15_0 : wc.cell? ⟨gb111, 0, none⟩ = some (.int .i64 a0_0) := (blk_cell BK111.out 0).trans rfl
     have hcz15_1 : wc.cell? ⟨gb111, 1, none⟩ = some (.string a0_1) := (blk_cell BK111.out 1).trans rfl
     have hcz15_2 : wc.cell? ⟨gb111, 2, none⟩ = some (.bool false) := (blk_cell BK111.out 2).trans rfl
     have hcz15_3 : wc.cell? ⟨gb111, 3, none⟩ = some (.slice A0_3 l0_3.length c0_3) := (blk_cell BK111.out 3).trans rfl
     have hfz15_0 := blk_frozen BK111.out 0
     have hfz15_1 := blk_frozen BK111.out 1
     have hfz15_2 := blk_frozen BK111.out 2
     have hfz15_3 := blk_frozen BK111.out 3
     go_wp2
     go_ret2
     exact ⟨by first | rfl | (simp [errW_none, errW_some] <;> rfl) | (simp [*, errW_none, errW_some] <;> rfl), by repeat (first | (with_reducible first | exact HB.out | apply below_alloc | apply pw_below_drewN | apply below_drew1 | refine below_set ?_ GE111.out) | exact HB.out)⟩

end Go.Proofs.Ytdkjlbbbdjkhbaa.PAll

namespace Go.Proofs.Ytdkjlbbbdjkhbaa.PAll
open Go.RowKit Go.Proofs.YtdkjlbbbdjkhbaaW.PrintWords Go.Proofs.YtdkjlbbbdjkhbaaW.PrintLast Go.Proofs.YtdkjlbbbdjkhbaaW.PrintMore
attribute [local go_sem] max2_int min2_int max_two min_two max_three min_three max_four min_four   -- for this text's walks alone
open Go.Proofs.Ytdkjlbbbdjkhbaa.Hand

/-! ### reply_local: function 42 -/
def reply_local.l0 : Nat → List (S43) → List (S43) → Int → Int → ByteArray → Int → Option ((List (S43)))
 | 0, _, _, _, _, _, _ => none
 | k + 1, x5, x9, x10, x11, x153000, x153001 => if x11 < x10 then (if 0 ≤ x11 then (if x11 < (x9.length : Int) then (if ((rd_T43 x9 x11).f1) = x153001 then (if x5.length < 3518437208883 then (reply_local.l0 k (x5 ++ [(⟨x153000, (rd_T43 x9 x11).f1, (rd_T43 x9 x11).f2, (rd_T43 x9 x11).f3⟩ : S43)]) x9 x10 (wrap64 (x11 + 1)) x153000 x153001) else (none)) else (reply_local.l0 k x5 x9 x10 (wrap64 (x11 + 1)) x153000 x153001)) else (none)) else (none)) else (some x5)
def reply_local.f (k : Nat) (a0_0 : Int) (a0_1 : ByteArray) (a0_2 : Bool) (l0_3 : List (S43)) (a1_0 : ByteArray) (a1_1 : Int) : Option ((List (S43))) := reply_local.l0 k ([] : List (S43)) l0_3 (l0_3.length : Int) 0 a1_0 a1_1
theorem reply_local.mono_l : ∀ k, (∀ y0 y1 y2 y3 y4 y5, LeO (reply_local.l0 k y0 y1 y2 y3 y4 y5) (reply_local.l0 (k + 1) y0 y1 y2 y3 y4 y5))
 | 0 => fun _ _ _ _ _ _ r h => by simp [reply_local.l0] at h
 | k + 1 => by
  have ih0 := reply_local.mono_l k
  ·intro y0 y1 y2 y3 y4 y5
   unfold reply_local.l0
   repeat' first
   | (with_reducible exact ih0 _ _ _ _ _ _)
   | (with_reducible exact LeO.refl _)
   | (with_reducible exact LeO.none _)
   | (with_reducible refine LeO.ite ?_ ?_)
   | (with_reducible refine LeO.bind ?_ (fun _ => ?_))
   | exact ih0 _ _ _ _ _ _
   | exact LeO.none _
   | refine LeO.ite ?_ ?_
   | refine LeO.bind ?_ (fun _ => ?_)
theorem reply_local.mono : ∀ a0 a1 a2 a3 a4 a5 k, LeO (reply_local.f k a0 a1 a2 a3 a4 a5) (reply_local.f (k + 1) a0 a1 a2 a3 a4 a5) := by
 intro a0 a1 a2 a3 a4 a5 k
 have ih0 := reply_local.mono_l k
 unfold reply_local.f
 repeat' first
   | (with_reducible exact ih0 _ _ _ _ _ _)
   | (with_reducible exact LeO.refl _)
   | (with_reducible exact LeO.none _)
   | (with_reducible refine LeO.ite ?_ ?_)
   | (with_reducible refine LeO.bind ?_ (fun _ => ?_))
   | exact ih0 _ _ _ _ _ _
   | exact LeO.none _
   | refine LeO.ite ?_ ?_
   | refine LeO.bind ?_ (fun _ => ?_)
set_option maxHeartbeats 8000000 in
set_option maxRecDepth 100000 in
theorem reply_local.calls (k : Nat) (a0_0 : Int) (a0_1 : ByteArray) (a0_2 : Bool) (A0_3 : Option Addr) (c0_3 : Nat) (l0_3 : List (S43)) (a1_0 : ByteArray) (a1_1 : Int) (r : List (S43)) (w : World) (hr0_3 : Kd.C k43 w A0_3 l0_3.length l0_3) (hc0_3 : l0_3.length ≤ c0_3) (h : reply_local.f k a0_0 a0_1 a0_2 l0_3 a1_0 a1_1 = some r) :
  Calls Try.prog 42 #[.agg #[.int .i64 a0_0, .string a0_1, .bool a0_2, .slice A0_3 l0_3.length c0_3], .agg #[.string a1_0, .int .u16 a1_1]] w fun e w' => ∃ v0_ : Value, e = .returned (v0_) ∧ Kd.R k43 43 w' w.heap.size (fun _ => True) v0_ r ∧ Below w.heap.size w w' := by
 have hu28 := Try.underlying28
 have hu56 := Try.underlying56
 have hu43 := Try.underlying43
 have HR0_3 := Aside0.mk hr0_3
 have HC0_3 := Aside0.mk hc0_3
 clear hr0_3 hc0_3
 have HB := Aside0.mk (Below.refl w.heap.size w)
 have H : (reply_local.l0 k ([] : List (S43)) l0_3 (l0_3.length : Int) 0 a1_0 a1_1) = some r := h
 clear h
 have H' := Aside0.mk H
 clear H
 go_enter Try.func42, Try.ntmps42
 go_wp2_with (first | ((with_reducible refine gate_dst (N := 2) rfl ?_); refine box_event ?hg (N := 2) ?hd (cs := #[.int .i64 a0_0, .string a0_1, .bool a0_2, .slice A0_3 l0_3.length c0_3]) (t := 28) ?hr ?_; (case hd => rfl); (case hg => rfl); (case hr => first | (go_simp; done) | (go_simp; rfl)); intro gb151 hg w3 hbox hb; have n0_ := Aside0.mk (below_step (by repeat (first | (with_reducible first | exact HB.out | apply below_alloc | apply pw_below_drewN | apply below_drew1) | exact HB.out)) hb); have n1_ := Aside0.mk (hbox); have n2_ := Aside0.mk ((by rw [hg]; exact (below_size (by repeat (first | (with_reducible first | exact HB.out | apply below_alloc | apply pw_below_drewN | apply below_drew1) | exact HB.out))) : w.heap.size ≤ gb151)); have n3_ := Aside0.mk ((by rw [hg]; exact (below_size (by repeat (first | (with_reducible first | exact HB.out | apply below_alloc | apply pw_below_drewN | apply below_drew1) | exact HB.out))) : w.heap.size ≤ gb151)); clear HB; have HB := n0_; have BK151 := n1_; have GW151 := n2_; have GE151 := n3_; clear n0_ n1_ n2_ n3_; clear hb hbox hg) | ((with_reducible refine gate_dst (N := 3) rfl ?_); refine box_event ?hg (N := 3) ?hd (cs := #[.string a1_0, .int .u16 a1_1]) (t := 56) ?hr ?_; (case hd => rfl); (case hg => rfl); (case hr => first | (go_simp; done) | (go_simp; rfl)); intro gb152 hg w4 hbox hb; have n0_ := Aside0.mk (blk_below (g := gb151) (o := .cells #[.int .i64 a0_0, .string a0_1, .bool a0_2, .slice A0_3 l0_3.length c0_3] 28 (0, 0)) (by (with_reducible repeat (first | refine blk_drewN ?_ _ | refine blk_drew ?_ | refine blk_alloc ?_ _)); exact BK151.out) hb); have n1_ := Aside0.mk (below_step (by repeat (first | (with_reducible first | exact HB.out | apply below_alloc | apply pw_below_drewN | apply below_drew1 | refine below_set ?_ GE151.out) | exact HB.out)) hb); have n2_ := Aside0.mk (hbox); have n3_ := Aside0.mk ((by rw [hg]; exact (below_size (by repeat (first | (with_reducible first | exact HB.out | apply below_alloc | apply pw_below_drewN | apply below_drew1 | refine below_set ?_ GE151.out) | exact HB.out))) : w.heap.size ≤ gb152)); have n4_ := Aside0.mk ((by rw [hg]; exact (below_size (by repeat (first | (with_reducible first | exact HB.out | apply below_alloc | apply pw_below_drewN | apply below_drew1 | refine below_set ?_ GE151.out) | exact HB.out))) : w.heap.size ≤ gb152)); have n5_ := Aside0.mk ((by rw [hg]; exact Nat.ne_of_lt (blk_lt (g := gb151) (o := .cells #[.int .i64 a0_0, .string a0_1, .bool a0_2, .slice A0_3 l0_3.length c0_3] 28 (0, 0)) (by (with_reducible repeat (first | refine blk_drewN ?_ _ | refine blk_drew ?_ | refine blk_alloc ?_ _)); exact BK151.out)) : gb151 ≠ gb152)); have n6_ := Aside0.mk ((by rw [hg]; exact Nat.ne_of_gt (blk_lt (g := gb151) (o := .cells #[.int .i64 a0_0, .string a0_1, .bool a0_2, .slice A0_3 l0_3.length c0_3] 28 (0, 0)) (by (with_reducible repeat (first | refine blk_drewN ?_ _ | refine blk_drew ?_ | refine blk_alloc ?_ _)); exact BK151.out)) : gb152 ≠ gb151)); clear BK151; clear HB; have BK151 := n0_; have HB := n1_; have BK152 := n2_; have GW152 := n3_; have GE152 := n4_; have NB151_152 := n5_; have NB152_151 := n6_; clear n0_ n1_ n2_ n3_ n4_ n5_ n6_; clear hb hbox hg; have hnb5 := NB151_152.out; have hnc5 := NB152_151.out; have hcz6_0 : w4.cell? ⟨gb151, 0, none⟩ = some (.int .i64 a0_0) := (blk_cell BK151.out 0).trans rfl; have hcz6_1 : w4.cell? ⟨gb151, 1, none⟩ = some (.string a0_1) := (blk_cell BK151.out 1).trans rfl; have hcz6_2 : w4.cell? ⟨gb151, 2, none⟩ = some (.bool a0_2) := (blk_cell BK151.out 2).trans rfl; have hcz6_3 : w4.cell? ⟨gb151, 3, none⟩ = some (.slice A0_3 l0_3.length c0_3) := (blk_cell BK151.out 3).trans rfl; have hfz6_0 := blk_frozen BK151.out 0; have hfz6_1 := blk_frozen BK151.out 1; have hfz6_2 := blk_frozen BK151.out 2; have hfz6_3 := blk_frozen BK151.out 3))
 go_loopg [5, 11] k (fun kq v5 v11 w' => ∃ (x5_1 : List (S43)) (x11_1 : Int), v11 = .int .i64 x11_1 ∧ Aside0 (reply_local.l0 kq x5_1 l0_3 (l0_3.length : Int) x11_1 a1_0 a1_1 = some r) ∧ Aside0 (kq ≤ k) ∧ Aside0 (Kd.R k43 43 w' w.heap.size (fun _ => True) v5 x5_1) ∧ Aside0 (w'.heap[gb151]? = some (.cells #[.int .i64 a0_0, .string a0_1, .bool a0_2, (.slice A0_3 l0_3.length c0_3)] 28 (0, 0))) ∧ Aside0 (w'.heap[gb152]? = some (.cells #[.string a1_0, .int .u16 a1_1] 56 (0, 0))) ∧ Aside0 (Below w.heap.size w w'))
 case atStart => exact ⟨(([] : List (S43))), (0), (by first | rfl | (simp; done) | (simp [*]; done)), H', ⟨Nat.le_refl _⟩, ⟨by first | exact Kd.R_nil _ _ _ _ _ | exact Kd.N_nil _ _ _ _ _ | exact Kd.V_nil _ _ _ _ _ | exact Kd.Q_nil _ _ _ _ _ | exact Kd.S_nil _ _ _ _ _⟩, ⟨by (with_reducible repeat (first | refine blk_drewN ?_ _ | refine blk_drew ?_ | refine blk_alloc ?_ _)); exact BK151.out⟩, ⟨by (with_reducible repeat (first | refine blk_drewN ?_ _ | refine blk_drew ?_ | refine blk_alloc ?_ _)); exact BK152.out⟩, ⟨by repeat (first | (with_reducible first | exact HB.out | apply below_alloc | apply pw_below_drewN | apply below_drew1 | refine below_set ?_ GE151.out | refine below_set ?_ GE152.out) | exact HB.out)⟩⟩
 case round =>
  clear H'
  try clear p2
  try clear c4
  try clear c5
  try clear hcz6_0
  try clear hcz6_1
  try clear hcz6_2
  try clear hcz6_3
  try clear hfz6_0
  try clear hfz6_1
  try clear hfz6_2
  try clear hfz6_3
  obtain ⟨x5_1, x11_1, rfl, HA, HK1, HO_5, BK151, BK152, HB⟩ := hrel
  cases gk with
  | zero => exact absurd HA.out (by simp [reply_local.l0])
  | succ k1 =>
   have H := HA.out
   clear HA
   simp only [reply_local.l0] at H
   by_cases c7 : x11_1 < (l0_3.length : Int)
   ·rw [if_pos c7] at H
    have c7b0 : decide (x11_1 < (l0_3.length : Int)) = true := decide_eq_true c7
    clear c7
    by_cases c8 : 0 ≤ x11_1
    ·rw [if_pos c8] at H
     have c8b0 : decide (0 ≤ x11_1) = true := decide_eq_true c8
     clear c8
     by_cases c9 : x11_1 < (l0_3.length : Int)
     ·rw [if_pos c9] at H
      have c9b0 : decide (x11_1 < (l0_3.length : Int)) = true := decide_eq_true c9
      clear c9
      by_cases c10 : ((rd_T43 l0_3 x11_1).f1) = a1_1
      ·rw [if_pos c10] at H
       have c10b0 : (((rd_T43 l0_3 x11_1).f1) == a1_1) = true := beq_iff_eq.mpr c10
       have c10b1 : (((rd_T43 l0_3 x11_1).f1) != a1_1) = false := bne_eq_false_iff_eq.mpr c10
       clear c10
       by_cases c11 : x5_1.length < 3518437208883
       ·rw [if_pos c11] at H
        have LMc11 := Aside0.mk c11
        clear c11
        obtain ⟨y155, hy155⟩ : ∃ y_ : List (S43), y_ = (x5_1 ++ [(⟨a1_0, (rd_T43 l0_3 x11_1).f1, (rd_T43 l0_3 x11_1).f2, (rd_T43 l0_3 x11_1).f3⟩ : S43)]) := ⟨_, rfl⟩
        replace H : (reply_local.l0 k1 y155 l0_3 (l0_3.length : Int) (wrap64 (x11_1 + 1)) a1_0 a1_1) = some r := by first | (rw [hy155]; with_reducible exact H) | (have H2_ := (Option.bind_some _ _).symm.trans H; rw [hy155]; with_reducible exact H2_) | (have H2_ := (Option.bind_some _ _).symm.trans H; with_reducible exact H2_) | with_reducible exact H | (rw [hy155]; exact H) | exact H
        have Ny155 := Aside0.mk hy155
        clear hy155
        have H' := Aside0.mk H
        clear H
        have p153 : 0 ≤ (x11_1 : Int) := of_decide_eq_true (by first | (with_reducible assumption) | assumption)
        have q153 : x11_1 < (l0_3.length : Int) := of_decide_eq_true (by first | (with_reducible assumption) | assumption)
        obtain ⟨ad153, e153, hx153_0, hx153_1, hx153_2, hx153_3⟩ := at_T43 HR0_3.out x11_1 p153 q153
        cases e153
        replace hx153_0 := (HB.out.cell (World.block_lt_of_cell? w _ hx153_0)).trans hx153_0
        replace hx153_1 := (HB.out.cell (World.block_lt_of_cell? w _ hx153_1)).trans hx153_1
        replace hx153_2 := (HB.out.cell (World.block_lt_of_cell? w _ hx153_2)).trans hx153_2
        replace hx153_3 := (HB.out.cell (World.block_lt_of_cell? w _ hx153_3)).trans hx153_3
        replace p153 := eq_true p153
        replace q153 := eq_true q153
        go_wp2_with (first | ((with_reducible refine gate_dst (N := 7) rfl ?_); refine box_event ?hg (N := 7) ?hd (cs := #[.string (⟨#[]⟩ : ByteArray), .int .u16 0, .int .u32 0, .string (⟨#[]⟩ : ByteArray)]) (t := 43) ?hr ?_; (case hd => rfl); (case hg => rfl); (case hr => first | (go_simp; done) | (go_simp; rfl)); intro gb154 hg w12 hbox hb; have n0_ := Aside0.mk (Kd.R_below (Kd.R_elderB (by (with_reducible repeat (first | apply Kd.R_alloc | apply Kd.R_drewN | apply Kd.R_drew)); exact HO_5.out) gb154 (Nat.le_of_eq hg.symm)) hb); have n1_ := Aside0.mk (blk_below (g := gb151) (o := .cells #[.int .i64 a0_0, .string a0_1, .bool a0_2, .slice (some ad153) l0_3.length c0_3] 28 (0, 0)) (by (with_reducible repeat (first | refine blk_drewN ?_ _ | refine blk_drew ?_ | refine blk_alloc ?_ _)); exact BK151.out) hb); have n2_ := Aside0.mk (blk_below (g := gb152) (o := .cells #[.string a1_0, .int .u16 a1_1] 56 (0, 0)) (by (with_reducible repeat (first | refine blk_drewN ?_ _ | refine blk_drew ?_ | refine blk_alloc ?_ _)); exact BK152.out) hb); have n3_ := Aside0.mk (below_step (by repeat (first | (with_reducible first | exact HB.out | apply below_alloc | apply pw_below_drewN | apply below_drew1 | refine below_set ?_ GE151.out | refine below_set ?_ GE152.out) | exact HB.out)) hb); have n4_ := Aside0.mk (hbox); have n5_ := Aside0.mk ((by rw [hg]; exact (below_size (by repeat (first | (with_reducible first | exact HB.out | apply below_alloc | apply pw_below_drewN | apply below_drew1 | refine below_set ?_ GE151.out | refine below_set ?_ GE152.out) | exact HB.out))) : w.heap.size ≤ gb154)); have n6_ := Aside0.mk ((by rw [hg]; exact (below_size (by repeat (first | (with_reducible first | exact HB.out | apply below_alloc | apply pw_below_drewN | apply below_drew1 | refine below_set ?_ GE151.out | refine below_set ?_ GE152.out) | exact HB.out))) : w.heap.size ≤ gb154)); have n7_ := Aside0.mk ((by rw [hg]; exact Nat.ne_of_lt (blk_lt (g := gb151) (o := .cells #[.int .i64 a0_0, .string a0_1, .bool a0_2, .slice (some ad153) l0_3.length c0_3] 28 (0, 0)) (by (with_reducible repeat (first | refine blk_drewN ?_ _ | refine blk_drew ?_ | refine blk_alloc ?_ _)); exact BK151.out)) : gb151 ≠ gb154)); have n8_ := Aside0.mk ((by rw [hg]; exact Nat.ne_of_gt (blk_lt (g := gb151) (o := .cells #[.int .i64 a0_0, .string a0_1, .bool a0_2, .slice (some ad153) l0_3.length c0_3] 28 (0, 0)) (by (with_reducible repeat (first | refine blk_drewN ?_ _ | refine blk_drew ?_ | refine blk_alloc ?_ _)); exact BK151.out)) : gb154 ≠ gb151)); have n9_ := Aside0.mk ((by rw [hg]; exact Nat.ne_of_lt (blk_lt (g := gb152) (o := .cells #[.string a1_0, .int .u16 a1_1] 56 (0, 0)) (by (with_reducible repeat (first | refine blk_drewN ?_ _ | refine blk_drew ?_ | refine blk_alloc ?_ _)); exact BK152.out)) : gb152 ≠ gb154)); have n10_ := Aside0.mk ((by rw [hg]; exact Nat.ne_of_gt (blk_lt (g := gb152) (o := .cells #[.string a1_0, .int .u16 a1_1] 56 (0, 0)) (by (with_reducible repeat (first | refine blk_drewN ?_ _ | refine blk_drew ?_ | refine blk_alloc ?_ _)); exact BK152.out)) : gb154 ≠ gb152)); clear HO_5; clear BK151; clear BK152; clear HB; have HO_5 := n0_; have BK151 := n1_; have BK152 := n2_; have HB := n3_; have BK154 := n4_; have GW154 := n5_; have GE154 := n6_; have NB151_154 := n7_; have NB154_151 := n8_; have NB152_154 := n9_; have NB154_152 := n10_; clear n0_ n1_ n2_ n3_ n4_ n5_ n6_ n7_ n8_ n9_ n10_; clear hb hbox hg; have hnb13 := NB154_151.out; have hnc13 := NB151_154.out; have hnb14 := NB154_152.out; have hnc14 := NB152_154.out; have hcz15_0 : w12.cell? ⟨gb154, 0, none⟩ = some (.string (⟨#[]⟩ : ByteArray)) := (blk_cell BK154.out 0).trans rfl; have hcz15_1 : w12.cell? ⟨gb154, 1, none⟩ = some (.int .u16 0) := (blk_cell BK154.out 1).trans rfl; have hcz15_2 : w12.cell? ⟨gb154, 2, none⟩ = some (.int .u32 0) := (blk_cell BK154.out 2).trans rfl; have hcz15_3 : w12.cell? ⟨gb154, 3, none⟩ = some (.string (⟨#[]⟩ : ByteArray)) := (blk_cell BK154.out 3).trans rfl; have hfz15_0 := blk_frozen BK154.out 0; have hfz15_1 := blk_frozen BK154.out 1; have hfz15_2 := blk_frozen BK154.out 2; have hfz15_3 := blk_frozen BK154.out 3; have hnb16 := NB152_151.out; have hnc16 := NB151_152.out; have hcz17_0 : w12.cell? ⟨gb152, 0, none⟩ = some (.string a1_0) := (blk_cell BK152.out 0).trans rfl; have hcz17_1 : w12.cell? ⟨gb152, 1, none⟩ = some (.int .u16 a1_1) := (blk_cell BK152.out 1).trans rfl; have hfz17_0 := blk_frozen BK152.out 0; have hfz17_1 := blk_frozen BK152.out 1) | ((with_reducible refine gate_builtin (b := .append) (xs := #[.tmp 23, .tmp 25]) rfl ?_); at_builtin; refine Kd.R_append k43 (w0 := w) w.heap.size rfl (.tmp 23) (.tmp 25) 26 43 (.agg #[(.string ⟨#[]⟩), (.int .u16 0), (.int .u32 0), (.string ⟨#[]⟩)]) 40 rfl Try.underlying26 info43 rfl (by decide) (by omega) u5 x5_1 (⟨a1_0, (rd_T43 l0_3 x11_1).f1, (rd_T43 l0_3 x11_1).f2, (rd_T43 l0_3 x11_1).f3⟩ : S43) [.string a1_0, .int .u16 ((rd_T43 l0_3 x11_1).f1), .int .u32 ((rd_T43 l0_3 x11_1).f2), .string ((rd_T43 l0_3 x11_1).f3)] (fun k_ => k_ ≠ gb154) (fun _ => False) rfl (by first | (go_simp; done) | (go_simp; rfl)) ?aP (fun _ hk => hk.elim) ?aF ?aO ?aB ?aS ?aL ?_; (case aP => exact k43_mkM _ _ _ (⟨a1_0, (rd_T43 l0_3 x11_1).f1, (rd_T43 l0_3 x11_1).f2, (rd_T43 l0_3 x11_1).f3⟩ : S43)); (case aB => exact (by repeat (first | (with_reducible first | exact HB.out | apply below_alloc | apply pw_below_drewN | apply below_drew1 | refine below_set ?_ GE151.out | refine below_set ?_ GE152.out | refine below_set ?_ GE154.out) | exact HB.out))); (case aF => exact (fun k_ hk => Kd.freshB (g := gb154) (o := .cells #[.string a1_0, .int .u16 ((rd_T43 l0_3 x11_1).f1), .int .u32 ((rd_T43 l0_3 x11_1).f2), .string ((rd_T43 l0_3 x11_1).f3)] 43 (0, 0)) (by (with_reducible repeat (first | refine blk_drewN ?_ _ | refine blk_drew ?_ | refine blk_alloc ?_ _)); refine blk_put (cs := #[.string ((rd_T43 l0_3 x11_1).f0), .int .u16 ((rd_T43 l0_3 x11_1).f1), .int .u32 ((rd_T43 l0_3 x11_1).f2), .string ((rd_T43 l0_3 x11_1).f3)]) ?_ 0 _ rfl; (with_reducible repeat (first | refine blk_drewN ?_ _ | refine blk_drew ?_ | refine blk_alloc ?_ _)); refine blk_put (cs := #[.string ((rd_T43 l0_3 x11_1).f0), .int .u16 ((rd_T43 l0_3 x11_1).f1), .int .u32 ((rd_T43 l0_3 x11_1).f2), .string (⟨#[]⟩ : ByteArray)]) ?_ 3 _ rfl; (with_reducible repeat (first | refine blk_drewN ?_ _ | refine blk_drew ?_ | refine blk_alloc ?_ _)); refine blk_put (cs := #[.string ((rd_T43 l0_3 x11_1).f0), .int .u16 ((rd_T43 l0_3 x11_1).f1), .int .u32 0, .string (⟨#[]⟩ : ByteArray)]) ?_ 2 _ rfl; (with_reducible repeat (first | refine blk_drewN ?_ _ | refine blk_drew ?_ | refine blk_alloc ?_ _)); refine blk_put (cs := #[.string ((rd_T43 l0_3 x11_1).f0), .int .u16 0, .int .u32 0, .string (⟨#[]⟩ : ByteArray)]) ?_ 1 _ rfl; (with_reducible repeat (first | refine blk_drewN ?_ _ | refine blk_drew ?_ | refine blk_alloc ?_ _)); refine blk_put (cs := #[.string (⟨#[]⟩ : ByteArray), .int .u16 0, .int .u32 0, .string (⟨#[]⟩ : ByteArray)]) ?_ 0 _ rfl; (with_reducible repeat (first | refine blk_drewN ?_ _ | refine blk_drew ?_ | refine blk_alloc ?_ _)); exact BK154.out) k_ hk)); (case aO => exact (by (with_reducible repeat (first | apply Kd.R_alloc | apply Kd.R_drewN | apply Kd.R_drew)); exact Kd.R_mono (Kd.R_far (p := ⟨gb154, 0, none⟩) (Kd.R_far (p := ⟨gb154, 3, none⟩) (Kd.R_far (p := ⟨gb154, 2, none⟩) (Kd.R_far (p := ⟨gb154, 1, none⟩) (Kd.R_far (p := ⟨gb154, 0, none⟩) (Kd.R_mono HO_5.out (fun k_ hk => (⟨hk, hk.2⟩ : _ ∧ k_ ≠ gb154))) (fun _ hk => hk.2) (.string ((rd_T43 l0_3 x11_1).f0))) (fun _ hk => hk.2) (.int .u16 ((rd_T43 l0_3 x11_1).f1))) (fun _ hk => hk.2) (.int .u32 ((rd_T43 l0_3 x11_1).f2))) (fun _ hk => hk.2) (.string ((rd_T43 l0_3 x11_1).f3))) (fun _ hk => hk.2) (.string a1_0)) (fun _ hk => hk.1.2))); (case aS => exact (below_size (by repeat (first | (with_reducible first | exact HB.out | apply below_alloc | apply pw_below_drewN | apply below_drew1 | refine below_set ?_ GE151.out | refine below_set ?_ GE152.out | refine below_set ?_ GE154.out) | exact HB.out)))); (case aL => have := LMc11.out; omega); intro v156 w18 ho hb hg hat; rw [← Ny155.out] at ho; have n0_ := Aside0.mk (blk_grown (g := gb151) (o := .cells #[.int .i64 a0_0, .string a0_1, .bool a0_2, .slice (some ad153) l0_3.length c0_3] 28 (0, 0)) (by (with_reducible repeat (first | refine blk_drewN ?_ _ | refine blk_drew ?_ | refine blk_alloc ?_ _)); refine blk_far ?_ NB151_154.out _; (with_reducible repeat (first | refine blk_drewN ?_ _ | refine blk_drew ?_ | refine blk_alloc ?_ _)); refine blk_far ?_ NB151_154.out _; (with_reducible repeat (first | refine blk_drewN ?_ _ | refine blk_drew ?_ | refine blk_alloc ?_ _)); refine blk_far ?_ NB151_154.out _; (with_reducible repeat (first | refine blk_drewN ?_ _ | refine blk_drew ?_ | refine blk_alloc ?_ _)); refine blk_far ?_ NB151_154.out _; (with_reducible repeat (first | refine blk_drewN ?_ _ | refine blk_drew ?_ | refine blk_alloc ?_ _)); refine blk_far ?_ NB151_154.out _; (with_reducible repeat (first | refine blk_drewN ?_ _ | refine blk_drew ?_ | refine blk_alloc ?_ _)); exact BK151.out) hg (Kd.R_ne HO_5.out BK151.out (by decide))); have n1_ := Aside0.mk (blk_grown (g := gb152) (o := .cells #[.string a1_0, .int .u16 a1_1] 56 (0, 0)) (by (with_reducible repeat (first | refine blk_drewN ?_ _ | refine blk_drew ?_ | refine blk_alloc ?_ _)); refine blk_far ?_ NB152_154.out _; (with_reducible repeat (first | refine blk_drewN ?_ _ | refine blk_drew ?_ | refine blk_alloc ?_ _)); refine blk_far ?_ NB152_154.out _; (with_reducible repeat (first | refine blk_drewN ?_ _ | refine blk_drew ?_ | refine blk_alloc ?_ _)); refine blk_far ?_ NB152_154.out _; (with_reducible repeat (first | refine blk_drewN ?_ _ | refine blk_drew ?_ | refine blk_alloc ?_ _)); refine blk_far ?_ NB152_154.out _; (with_reducible repeat (first | refine blk_drewN ?_ _ | refine blk_drew ?_ | refine blk_alloc ?_ _)); refine blk_far ?_ NB152_154.out _; (with_reducible repeat (first | refine blk_drewN ?_ _ | refine blk_drew ?_ | refine blk_alloc ?_ _)); exact BK152.out) hg (Kd.R_ne HO_5.out BK152.out (by decide))); have n2_ := Aside0.mk (blk_grown (g := gb154) (o := .cells #[.string a1_0, .int .u16 ((rd_T43 l0_3 x11_1).f1), .int .u32 ((rd_T43 l0_3 x11_1).f2), .string ((rd_T43 l0_3 x11_1).f3)] 43 (0, 0)) (by (with_reducible repeat (first | refine blk_drewN ?_ _ | refine blk_drew ?_ | refine blk_alloc ?_ _)); refine blk_put (cs := #[.string ((rd_T43 l0_3 x11_1).f0), .int .u16 ((rd_T43 l0_3 x11_1).f1), .int .u32 ((rd_T43 l0_3 x11_1).f2), .string ((rd_T43 l0_3 x11_1).f3)]) ?_ 0 _ rfl; (with_reducible repeat (first | refine blk_drewN ?_ _ | refine blk_drew ?_ | refine blk_alloc ?_ _)); refine blk_put (cs := #[.string ((rd_T43 l0_3 x11_1).f0), .int .u16 ((rd_T43 l0_3 x11_1).f1), .int .u32 ((rd_T43 l0_3 x11_1).f2), .string (⟨#[]⟩ : ByteArray)]) ?_ 3 _ rfl; (with_reducible repeat (first | refine blk_drewN ?_ _ | refine blk_drew ?_ | refine blk_alloc ?_ _)); refine blk_put (cs := #[.string ((rd_T43 l0_3 x11_1).f0), .int .u16 ((rd_T43 l0_3 x11_1).f1), .int .u32 0, .string (⟨#[]⟩ : ByteArray)]) ?_ 2 _ rfl; (with_reducible repeat (first | refine blk_drewN ?_ _ | refine blk_drew ?_ | refine blk_alloc ?_ _)); refine blk_put (cs := #[.string ((rd_T43 l0_3 x11_1).f0), .int .u16 0, .int .u32 0, .string (⟨#[]⟩ : ByteArray)]) ?_ 1 _ rfl; (with_reducible repeat (first | refine blk_drewN ?_ _ | refine blk_drew ?_ | refine blk_alloc ?_ _)); refine blk_put (cs := #[.string (⟨#[]⟩ : ByteArray), .int .u16 0, .int .u32 0, .string (⟨#[]⟩ : ByteArray)]) ?_ 0 _ rfl; (with_reducible repeat (first | refine blk_drewN ?_ _ | refine blk_drew ?_ | refine blk_alloc ?_ _)); exact BK154.out) hg (Kd.R_away HO_5.out (fun _ hk => hk.2))); have n3_ := Aside0.mk (hb); have n4_ := Aside0.mk (ho); clear BK151; clear BK152; clear BK154; clear HB; clear HO_5; have BK151 := n0_; have BK152 := n1_; have BK154 := n2_; have HB := n3_; have HO157 := n4_; clear n0_ n1_ n2_ n3_ n4_; clear ho hb hg hat))
        go_roundg k1
        case measure => have := HK1.out; omega
        case rel => exact ⟨(y155), (wrap64 (x11_1 + 1)), (by first | rfl | (simp; done) | (simp [*]; done)), H', ⟨by have := HK1.out; omega⟩, ⟨by (with_reducible repeat (first | apply Kd.R_alloc | apply Kd.R_drewN | apply Kd.R_drew)); exact Kd.R_mono HO157.out (fun _ hk => trivial)⟩, ⟨by (with_reducible repeat (first | refine blk_drewN ?_ _ | refine blk_drew ?_ | refine blk_alloc ?_ _)); exact BK151.out⟩, ⟨by (with_reducible repeat (first | refine blk_drewN ?_ _ | refine blk_drew ?_ | refine blk_alloc ?_ _)); exact BK152.out⟩, ⟨by repeat (first | (with_reducible first | exact HB.out | apply below_alloc | apply pw_below_drewN | apply below_drew1 | refine below_set ?_ GE151.out | refine below_set ?_ GE152.out | refine below_set ?_ GE154.out) | exact HB.out)⟩⟩
       ·rw [if_neg c11] at H
        exact absurd H (by simp)
      ·rw [if_neg c10] at H
       have c10b0 : (((rd_T43 l0_3 x11_1).f1) == a1_1) = false := beq_eq_false_iff_ne.mpr c10
       have c10b1 : (((rd_T43 l0_3 x11_1).f1) != a1_1) = true := bne_iff_ne.mpr c10
       have H' := Aside0.mk H
       clear H
       have p153 : 0 ≤ (x11_1 : Int) := of_decide_eq_true (by first | (with_reducible assumption) | assumption)
       have q153 : x11_1 < (l0_3.length : Int) := of_decide_eq_true (by first | (with_reducible assumption) | assumption)
       obtain ⟨ad153, e153, hx153_0, hx153_1, hx153_2, hx153_3⟩ := at_T43 HR0_3.out x11_1 p153 q153
       cases e153
       replace hx153_0 := (HB.out.cell (World.block_lt_of_cell? w _ hx153_0)).trans hx153_0
       replace hx153_1 := (HB.out.cell (World.block_lt_of_cell? w _ hx153_1)).trans hx153_1
       replace hx153_2 := (HB.out.cell (World.block_lt_of_cell? w _ hx153_2)).trans hx153_2
       replace hx153_3 := (HB.out.cell (World.block_lt_of_cell? w _ hx153_3)).trans hx153_3
       replace p153 := eq_true p153
       replace q153 := eq_true q153
       go_wp2_with (first | ((with_reducible refine gate_dst (N := 7) rfl ?_); refine box_event ?hg (N := 7) ?hd (cs := #[.string (⟨#[]⟩ : ByteArray), .int .u16 0, .int .u32 0, .string (⟨#[]⟩ : ByteArray)]) (t := 43) ?hr ?_; (case hd => rfl); (case hg => rfl); (case hr => first | (go_simp; done) | (go_simp; rfl)); intro gb154 hg w19 hbox hb; have n0_ := Aside0.mk (Kd.R_below (Kd.R_elderB (by (with_reducible repeat (first | apply Kd.R_alloc | apply Kd.R_drewN | apply Kd.R_drew)); exact HO_5.out) gb154 (Nat.le_of_eq hg.symm)) hb); have n1_ := Aside0.mk (blk_below (g := gb151) (o := .cells #[.int .i64 a0_0, .string a0_1, .bool a0_2, .slice (some ad153) l0_3.length c0_3] 28 (0, 0)) (by (with_reducible repeat (first | refine blk_drewN ?_ _ | refine blk_drew ?_ | refine blk_alloc ?_ _)); exact BK151.out) hb); have n2_ := Aside0.mk (blk_below (g := gb152) (o := .cells #[.string a1_0, .int .u16 a1_1] 56 (0, 0)) (by (with_reducible repeat (first | refine blk_drewN ?_ _ | refine blk_drew ?_ | refine blk_alloc ?_ _)); exact BK152.out) hb); have n3_ := Aside0.mk (below_step (by repeat (first | (with_reducible first | exact HB.out | apply below_alloc | apply pw_below_drewN | apply below_drew1 | refine below_set ?_ GE151.out | refine below_set ?_ GE152.out) | exact HB.out)) hb); have n4_ := Aside0.mk (hbox); have n5_ := Aside0.mk ((by rw [hg]; exact (below_size (by repeat (first | (with_reducible first | exact HB.out | apply below_alloc | apply pw_below_drewN | apply below_drew1 | refine below_set ?_ GE151.out | refine below_set ?_ GE152.out) | exact HB.out))) : w.heap.size ≤ gb154)); have n6_ := Aside0.mk ((by rw [hg]; exact (below_size (by repeat (first | (with_reducible first | exact HB.out | apply below_alloc | apply pw_below_drewN | apply below_drew1 | refine below_set ?_ GE151.out | refine below_set ?_ GE152.out) | exact HB.out))) : w.heap.size ≤ gb154)); have n7_ := Aside0.mk ((by rw [hg]; exact Nat.ne_of_lt (blk_lt (g := gb151) (o := .cells #[.int .i64 a0_0, .string a0_1, .bool a0_2, .slice (some ad153) l0_3.length c0_3] 28 (0, 0)) (by (with_reducible repeat (first | refine blk_drewN ?_ _ | refine blk_drew ?_ | refine blk_alloc ?_ _)); exact BK151.out)) : gb151 ≠ gb154)); have n8_ := Aside0.mk ((by rw [hg]; exact Nat.ne_of_gt (blk_lt (g := gb151) (o := .cells #[.int .i64 a0_0, .string a0_1, .bool a0_2, .slice (some ad153) l0_3.length c0_3] 28 (0, 0)) (by (with_reducible repeat (first | refine blk_drewN ?_ _ | refine blk_drew ?_ | refine blk_alloc ?_ _)); exact BK151.out)) : gb154 ≠ gb151)); have n9_ := Aside0.mk ((by rw [hg]; exact Nat.ne_of_lt (blk_lt (g := gb152) (o := .cells #[.string a1_0, .int .u16 a1_1] 56 (0, 0)) (by (with_reducible repeat (first | refine blk_drewN ?_ _ | refine blk_drew ?_ | refine blk_alloc ?_ _)); exact BK152.out)) : gb152 ≠ gb154)); have n10_ := Aside0.mk ((by rw [hg]; exact Nat.ne_of_gt (blk_lt (g := gb152) (o := .cells #[.string a1_0, .int .u16 a1_1] 56 (0, 0)) (by (with_reducible repeat (first | refine blk_drewN ?_ _ | refine blk_drew ?_ | refine blk_alloc ?_ _)); exact BK152.out)) : gb154 ≠ gb152)); clear HO_5; clear BK151; clear BK152; clear HB; have HO_5 := n0_; have BK151 := n1_; have BK152 := n2_; have HB := n3_; have BK154 := n4_; have GW154 := n5_; have GE154 := n6_; have NB151_154 := n7_; have NB154_151 := n8_; have NB152_154 := n9_; have NB154_152 := n10_; clear n0_ n1_ n2_ n3_ n4_ n5_ n6_ n7_ n8_ n9_ n10_; clear hb hbox hg; have hnb20 := NB154_151.out; have hnc20 := NB151_154.out; have hnb21 := NB154_152.out; have hnc21 := NB152_154.out; have hcz22_0 : w19.cell? ⟨gb154, 0, none⟩ = some (.string (⟨#[]⟩ : ByteArray)) := (blk_cell BK154.out 0).trans rfl; have hcz22_1 : w19.cell? ⟨gb154, 1, none⟩ = some (.int .u16 0) := (blk_cell BK154.out 1).trans rfl; have hcz22_2 : w19.cell? ⟨gb154, 2, none⟩ = some (.int .u32 0) := (blk_cell BK154.out 2).trans rfl; have hcz22_3 : w19.cell? ⟨gb154, 3, none⟩ = some (.string (⟨#[]⟩ : ByteArray)) := (blk_cell BK154.out 3).trans rfl; have hfz22_0 := blk_frozen BK154.out 0; have hfz22_1 := blk_frozen BK154.out 1; have hfz22_2 := blk_frozen BK154.out 2; have hfz22_3 := blk_frozen BK154.out 3; have hnb23 := NB152_151.out; have hnc23 := NB151_152.out; have hcz24_0 : w19.cell? ⟨gb152, 0, none⟩ = some (.string a1_0) := (blk_cell BK152.out 0).trans rfl; have hcz24_1 : w19.cell? ⟨gb152, 1, none⟩ = some (.int .u16 a1_1) := (blk_cell BK152.out 1).trans rfl; have hfz24_0 := blk_frozen BK152.out 0; have hfz24_1 := blk_frozen BK152.out 1))
       go_roundg k1
       case measure => have := HK1.out; omega
       case rel => exact ⟨(x5_1), (wrap64 (x11_1 + 1)), (by first | rfl | (simp; done) | (simp [*]; done)), H', ⟨by have := HK1.out; omega⟩, ⟨by (with_reducible repeat (first | apply Kd.R_alloc | apply Kd.R_drewN | apply Kd.R_drew)); exact Kd.R_mono (Kd.R_far (p := ⟨gb154, 3, none⟩) (Kd.R_far (p := ⟨gb154, 2, none⟩) (Kd.R_far (p := ⟨gb154, 1, none⟩) (Kd.R_far (p := ⟨gb154, 0, none⟩) (Kd.R_mono HO_5.out (fun k_ hk => (⟨hk, hk.2⟩ : _ ∧ k_ ≠ gb154))) (fun _ hk => hk.2) (.string ((rd_T43 l0_3 x11_1).f0))) (fun _ hk => hk.2) (.int .u16 ((rd_T43 l0_3 x11_1).f1))) (fun _ hk => hk.2) (.int .u32 ((rd_T43 l0_3 x11_1).f2))) (fun _ hk => hk.2) (.string ((rd_T43 l0_3 x11_1).f3))) (fun _ hk => trivial)⟩, ⟨by (with_reducible repeat (first | refine blk_drewN ?_ _ | refine blk_drew ?_ | refine blk_alloc ?_ _)); refine blk_far ?_ NB151_154.out _; (with_reducible repeat (first | refine blk_drewN ?_ _ | refine blk_drew ?_ | refine blk_alloc ?_ _)); refine blk_far ?_ NB151_154.out _; (with_reducible repeat (first | refine blk_drewN ?_ _ | refine blk_drew ?_ | refine blk_alloc ?_ _)); refine blk_far ?_ NB151_154.out _; (with_reducible repeat (first | refine blk_drewN ?_ _ | refine blk_drew ?_ | refine blk_alloc ?_ _)); refine blk_far ?_ NB151_154.out _; (with_reducible repeat (first | refine blk_drewN ?_ _ | refine blk_drew ?_ | refine blk_alloc ?_ _)); exact BK151.out⟩, ⟨by (with_reducible repeat (first | refine blk_drewN ?_ _ | refine blk_drew ?_ | refine blk_alloc ?_ _)); refine blk_far ?_ NB152_154.out _; (with_reducible repeat (first | refine blk_drewN ?_ _ | refine blk_drew ?_ | refine blk_alloc ?_ _)); refine blk_far ?_ NB152_154.out _; (with_reducible repeat (first | refine blk_drewN ?_ _ | refine blk_drew ?_ | refine blk_alloc ?_ _)); refine blk_far ?_ NB152_154.out _; (with_reducible repeat (first | refine blk_drewN ?_ _ | refine blk_drew ?_ | refine blk_alloc ?_ _)); refine blk_far ?_ NB152_154.out _; (with_reducible repeat (first | refine blk_drewN ?_ _ | refine blk_drew ?_ | refine blk_alloc ?_ _)); exact BK152.out⟩, ⟨by repeat (first | (with_reducible first | exact HB.out | apply below_alloc | apply pw_below_drewN | apply below_drew1 | refine below_set ?_ GE151.out | refine below_set ?_ GE152.out | refine below_set ?_ GE154.out) | exact HB.out)⟩⟩
     ·rw [if_neg c9] at H
      exact absurd H (by simp)
    ·rw [if_neg c8] at H
     exact absurd H (by simp)
   ·rw [if_neg c7] at H
    have c7b0 : decide (x11_1 < (l0_3.length : Int)) = false := decide_eq_false c7
    clear c7
    obtain rfl := Option.some.inj H
    go_wp2
    go_ret
    exact ⟨_, by first | rfl | (simp [errW_none, errW_some] <;> rfl) | (simp [*, errW_none, errW_some] <;> rfl), by (with_reducible repeat (first | apply Kd.R_alloc | apply Kd.R_drewN | apply Kd.R_drew)); exact HO_5.out, by repeat (first | (with_reducible first | exact HB.out | apply below_alloc | apply pw_below_drewN | apply below_drew1 | refine below_set ?_ GE151.out | refine below_set ?_ GE152.out) | exact HB.out)⟩

end Go.Proofs.Ytdkjlbbbdjkhbaa.PAll
