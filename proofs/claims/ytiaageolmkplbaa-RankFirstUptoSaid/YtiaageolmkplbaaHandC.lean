/- The contract of prefix.Cut: for every string and every number. -/
import Derived.Test.YtiaageolmkplbaaHandF
import Derived.Below
import Derived.Deep.Draws
import Derived.Deep.AppendLies
import Derived.Maps.AppendAt
import Derived.OwnWalk
import Derived.Laws.BytesArg
import Derived.Laws.MakeOwn
import Derived.Laws.OwnMore
import Derived.Deep.OwnRows
import Derived.Tactics
import Derived.Lib.ConvBytes
import Derived.Laws.Slices
import Derived.WalkKit
import Derived.KernelRfl
import Derived.RowKit3
import Derived.Deep.LoopGhost
import Derived.Deep.QuietTactic
import Derived.BigQuiet
import Derived.WideLaws
import Derived.Lib.Hide
import Derived.RegionTactic
import Derived.ChangeAlike
import Derived.Test.YtiaageolmkplbaaWWords
import Derived.Test.YtiaageolmkplbaaWLast
namespace Go.Proofs.Ytiaageolmkplbaa.Hand
open Go.RowKit Go.Proofs.YtiaageolmkplbaaW.PrintWords Go.Proofs.YtiaageolmkplbaaW.PrintLast

def prefix_Cut.lp : Nat → List Int → Int → List Int
  | 0, b, _ => b
  | d + 1, b, k => prefix_Cut.lp d (b.set (k / 8).toNat (Go.bits .andNot .u8 (rd b (k / 8)) (2 ^ (7 - k % 8).toNat % 256))) (k + 1)
theorem prefix_Cut.lp_length : ∀ (d : Nat) (b : List Int) (k : Int), (prefix_Cut.lp d b k).length = b.length
  | 0, _, _ => rfl
  | d + 1, b, k => by rw [prefix_Cut.lp, prefix_Cut.lp_length d]; simp
def prefix_Cut.f (a0 : ByteArray) (a1 : Int) : Option (ByteArray × Int × Bool) :=
  if (a0.size = 4 ∨ a0.size = 16) ∧ 0 ≤ a1 ∧ a1 ≤ 8 * (a0.size : Int) then
    some (strOfNums (prefix_Cut.lp (8 * (a0.size : Int) - a1).toNat (bytesOf a0) a1), a1, true)
  else some ((⟨#[]⟩ : ByteArray), 0, false)

set_option maxHeartbeats 1000000 in
set_option maxRecDepth 100000 in
theorem prefix_Cut.no (a0 : ByteArray) (a1 : Int) (w : World) (h : ¬ ((a0.size = 4 ∨ a0.size = 16) ∧ 0 ≤ a1 ∧ a1 ≤ 8 * (a0.size : Int))) :
    Calls Try.prog 19 #[.string a0, .int .i64 a1] w fun e w' => e = .returned (.tuple #[.agg #[.string (⟨#[]⟩ : ByteArray), .int .i64 0], .bool false]) ∧ Below w.heap.size w w' := by
  by_cases h4 : (a0.size : Int) = 4
  · have b4 : ((a0.size : Int) == 4) = true := beq_iff_eq.mpr h4
    have s4 : a0.size = 4 := by omega
    have hs : (a0.size : Int) ≤ 4 := by omega
    have hs2 : 4 ≤ (a0.size : Int) := by omega
    have k : a1 < 0 ∨ 32 < a1 := by omega
    clear h4 h s4
    rcases k with k | k
    · go_enter Try.func19, Try.ntmps19
      go_wp2
      exact bodyPost_ret (v := .tuple #[.agg #[.string (⟨#[]⟩ : ByteArray), .int .i64 0], .bool false]) (by simp [results, Try.results19, go_sem]) rfl ⟨rfl, (Below.refl _ _).alloc (Nat.le_refl _) _⟩
    · have k0 : ¬ a1 < 0 := by omega
      go_enter Try.func19, Try.ntmps19
      go_wp2
      exact bodyPost_ret (v := .tuple #[.agg #[.string (⟨#[]⟩ : ByteArray), .int .i64 0], .bool false]) (by simp [results, Try.results19, go_sem]) rfl ⟨rfl, (Below.refl _ _).alloc (Nat.le_refl _) _⟩
  · have b4 : ((a0.size : Int) == 4) = false := beq_eq_false_iff_ne.mpr h4
    by_cases h16 : (a0.size : Int) = 16
    · have b16 : ((a0.size : Int) == 16) = true := beq_iff_eq.mpr h16
      have hs : (a0.size : Int) ≤ 16 := by omega
      have hs2 : 16 ≤ (a0.size : Int) := by omega
      have k : a1 < 0 ∨ 128 < a1 := by omega
      clear h4 h h16
      rcases k with k | k
      · go_enter Try.func19, Try.ntmps19
        go_wp2
        exact bodyPost_ret (v := .tuple #[.agg #[.string (⟨#[]⟩ : ByteArray), .int .i64 0], .bool false]) (by simp [results, Try.results19, go_sem]) rfl ⟨rfl, (Below.refl _ _).alloc (Nat.le_refl _) _⟩
      · have k0 : ¬ a1 < 0 := by omega
        go_enter Try.func19, Try.ntmps19
        go_wp2
        exact bodyPost_ret (v := .tuple #[.agg #[.string (⟨#[]⟩ : ByteArray), .int .i64 0], .bool false]) (by simp [results, Try.results19, go_sem]) rfl ⟨rfl, (Below.refl _ _).alloc (Nat.le_refl _) _⟩
    · have b16 : ((a0.size : Int) == 16) = false := beq_eq_false_iff_ne.mpr h16
      clear h4 h h16
      go_enter Try.func19, Try.ntmps19
      go_wp2
      exact bodyPost_ret (v := .tuple #[.agg #[.string (⟨#[]⟩ : ByteArray), .int .i64 0], .bool false]) (by simp [results, Try.results19, go_sem]) rfl ⟨rfl, (Below.refl _ _).alloc (Nat.le_refl _) _⟩

set_option maxHeartbeats 4000000 in
set_option maxRecDepth 100000 in
theorem prefix_Cut.yes (a0 : ByteArray) (a1 : Int) (w : World) (hsz : a0.size = 4 ∨ a0.size = 16) (h0 : 0 ≤ a1) (h1 : a1 ≤ 8 * (a0.size : Int)) :
    Calls Try.prog 19 #[.string a0, .int .i64 a1] w fun e w' => e = .returned (.tuple #[.agg #[.string (strOfNums (prefix_Cut.lp (8 * (a0.size : Int) - a1).toNat (bytesOf a0) a1)), .int .i64 a1], .bool true]) ∧ Below w.heap.size w w' := by
  have hb : ((a0.size : Int) == 4) = true ∨ ((a0.size : Int) == 4) = false ∧ ((a0.size : Int) == 16) = true := by
    rcases hsz with h | h
    · exact .inl (by simp [h])
    · exact .inr ⟨by simp [h], by simp [h]⟩
  have hlo : ¬ a1 < 0 := by omega
  have hs : (a0.size : Int) ≤ 16 := by omega
  have kb := fun W => print_bytes (P := Try.prog) 9 23 5 Try.underlying9 Try.underlying23 Try.underlying5 a0 W
  clear hsz
  rcases hb with b4 | ⟨b4, b16⟩
  all_goals
    go_enter Try.func19, Try.ntmps19
    go_wp2
    clear kb
    have B0 : Hid (Byt 5 (w.heap.size + 1) (Lib.bytesWorld (w.alloc (Obj.cells #[Value.string { data := #[] }, Value.int IntKind.i64 0] 28)) 5 a0) (bytesOf a0)) := by
      have := Byt.made (w.alloc (Obj.cells #[Value.string { data := #[] }, Value.int IntKind.i64 0] 28)) 5 a0
      rw [show (w.alloc (Obj.cells #[Value.string { data := #[] }, Value.int IntKind.i64 0] 28)).heap.size = w.heap.size + 1 by simp] at this
      exact Lib.hid this
    have C0 : Hid ((Lib.bytesWorld (w.alloc (Obj.cells #[Value.string { data := #[] }, Value.int IntKind.i64 0] 28)) 5 a0).heap[w.heap.size]? = some (.cells #[Value.string { data := #[] }, Value.int IntKind.i64 0] 28 (0, 0))) :=
      Lib.hid ((Lib.bytesWorld_at_old _ 5 a0 _ (by simp)).trans (heap_alloc_new w _))
    have D0 : Hid (Below w.heap.size w (Lib.bytesWorld (w.alloc (Obj.cells #[Value.string { data := #[] }, Value.int IntKind.i64 0] 28)) 5 a0)) :=
      Lib.hid (bytes_below ((Below.refl _ _).alloc (Nat.le_refl _) _) (by simp) 5 a0)
    generalize Lib.bytesWorld (w.alloc (Obj.cells #[Value.string { data := #[] }, Value.int IntKind.i64 0] 28)) 5 a0 = W0 at B0 C0 D0 ⊢
    generalize grownCap (w.alloc (Obj.cells #[Value.string { data := #[] }, Value.int IntKind.i64 0] 28)) a0.size 0 5 = cap
    go_loopw [7] (fun v wr => ∃ (k : Int) (xs : List Int), v = .int .i64 k ∧ a1 ≤ k ∧ k ≤ 8 * (a0.size : Int) ∧ Hid (xs.length = a0.size) ∧ Hid (prefix_Cut.lp (8 * (a0.size : Int) - k).toNat xs k = prefix_Cut.lp (8 * (a0.size : Int) - a1).toNat (bytesOf a0) a1) ∧ Hid (Byt 5 (w.heap.size + 1) wr xs) ∧ Hid (wr.heap[w.heap.size]? = some (.cells #[Value.string { data := #[] }, Value.int IntKind.i64 0] 28 (0, 0))) ∧ Hid (Below w.heap.size w wr)) (fun v _ => (8 * (a0.size : Int) - intOf v).toNat)
    case atStart => exact ⟨a1, bytesOf a0, rfl, Int.le_refl _, h1, Lib.hid (bytesOf_length a0), Lib.hid rfl, B0, C0, D0⟩
    case round =>
      obtain ⟨k, xs, rfl, k0, k1, HL, HE, HBy, HC, HD⟩ := hrel
      clear B0 C0 D0
      by_cases hlt : k < 8 * (a0.size : Int)
      · have hj : (k / 8).toNat < xs.length := by rw [HL.out]; omega
        have hcell := HBy.out.cell (k / 8).toNat hj
        have hfz := HBy.out.frozen (k / 8).toNat hj
        generalize hX : xs.getD (k / 8).toNat 0 = X at hcell
        have HX := Lib.hid hX
        clear hX hj
        have i0 : 0 ≤ k / 8 := by omega
        have i1 : k / 8 < (a0.size : Int) := by omega
        have m0 : 0 ≤ k % 8 := by omega
        have m1 : k % 8 ≤ 7 := by omega
        go_wp2
        go_region
        go_wp2
        refine ⟨⟨k + 1, xs.set (k / 8).toNat (Go.bits .andNot .u8 X (2 ^ (7 - k % 8).toNat % 256)), rfl, by omega, by omega, Lib.hid (by rw [List.length_set, HL.out]), ?_, ?_, ?_, ?_⟩, by simp [intOf]; omega⟩
        · refine Lib.hid (Eq.trans ?_ HE.out)
          rw [show (8 * (a0.size : Int) - k).toNat = (8 * (a0.size : Int) - (k + 1)).toNat + 1 by omega, prefix_Cut.lp]
          rw [show rd xs (k / 8) = X from HX.out]
        · exact Lib.hid ((HBy.out.set _ _).keep rfl)
        · exact Lib.hid (blk_drew (blk_far HC.out (by simp) _))
        · exact Lib.hid (below_drew (HD.out.setCell (p := ⟨w.heap.size + 1, _, none⟩) (by simp) _))
      · have hk : k = 8 * (a0.size : Int) := by omega
        have hE := HE.out
        rw [show (8 * (a0.size : Int) - k).toNat = 0 by omega, prefix_Cut.lp] at hE
        have HF := Lib.hid hE
        clear hE hk HE
        have hrd : ReadsInt wr .u8 (some ⟨w.heap.size + 1, 0, none⟩) a0.size xs := by
          have := HBy.out.reads (by rw [HL.out]; unfold maxLen; omega)
          rwa [HL.out] at this
        have hcv : (convert 23 9 (.slice (some ⟨w.heap.size + 1, 0, none⟩) a0.size cap)).run Try.prog wr = .ok (.string (strOfNums xs)) wr := string_of_reads Try.underlying23 Try.underlying5 Try.underlying9 hrd
        have c0 : wr.cell? ⟨w.heap.size, 0, none⟩ = some (.string (⟨#[]⟩ : ByteArray)) := (blk_cell HC.out 0).trans rfl
        have c1 : wr.cell? ⟨w.heap.size, 1, none⟩ = some (.int .i64 0) := (blk_cell HC.out 1).trans rfl
        have f0 := blk_frozen HC.out 0
        have f1 := blk_frozen HC.out 1
        clear hrd
        go_wp2
        refine bodyPost_ret (results_ct rfl _ _ w.heap.size 28 #[.string (strOfNums xs), .int .i64 a1] (0, 0) _ rfl ?_ Try.underlying28 rfl (by kernel_rfl)) rfl ?_
        · exact (blk_set (blk_set HC.out 0 _) 1 _).trans rfl
        · exact ⟨by rw [← HF.out]; rfl, (HD.out.setCell (p := ⟨w.heap.size, 0, none⟩) (Nat.le_refl _) _).setCell (p := ⟨w.heap.size, 1, none⟩) (Nat.le_refl _) _⟩

theorem prefix_Cut.calls (a0 : ByteArray) (a1 : Int) (r1 : ByteArray) (r2 : Int) (r3 : Bool) (w : World) (h : prefix_Cut.f a0 a1 = some (r1, r2, r3)) :
    Calls Try.prog 19 #[.string a0, .int .i64 a1] w fun e w' => e = .returned (.tuple #[.agg #[.string r1, .int .i64 r2], .bool r3]) ∧ Below w.heap.size w w' := by
  unfold prefix_Cut.f at h
  by_cases c : (a0.size = 4 ∨ a0.size = 16) ∧ 0 ≤ a1 ∧ a1 ≤ 8 * (a0.size : Int)
  · rw [if_pos c] at h
    simp only [Option.some.injEq, Prod.mk.injEq] at h
    obtain ⟨rfl, rfl, rfl⟩ := h
    exact prefix_Cut.yes a0 a1 w c.1 c.2.1 c.2.2
  · rw [if_neg c] at h
    simp only [Option.some.injEq, Prod.mk.injEq] at h
    obtain ⟨rfl, rfl, rfl⟩ := h
    exact prefix_Cut.no a0 a1 w c
end Go.Proofs.Ytiaageolmkplbaa.Hand
