/- RankBetter walked: for every two triggers made by numbers, in two zones. -/
import Derived.Test.YtiaageolmkplbaaRnkE
import Derived.Test.YtiaageolmkplbaaPBase0x20
import Derived.Test.YtiaageolmkplbaaPBase0x25
import Derived.IntWalk
set_option linter.unusedVariables false
namespace Go.Proofs.Ytiaageolmkplbaa.Hand
open Go.RowKit Go.Proofs.YtiaageolmkplbaaW.PrintWords Go.Proofs.YtiaageolmkplbaaW.PrintLast Go.Proofs.Ytiaageolmkplbaa.PBase0 Go.Proofs.Ytiaageolmkplbaa.Flt

/-- What is kept: all that was; two blocks. -/
def KB (w : World) (g h : Nat) (oa ob : Obj) (W : World) : Prop := Below w.heap.size w W ∧ W.heap[g]? = some oa ∧ W.heap[h]? = some ob
theorem KB.step {w W W1 : World} {g h : Nat} {oa ob : Obj} (k : KB w g h oa ob W) (hb : Below W.heap.size W W1) : KB w g h oa ob W1 := ⟨below_step k.1 hb, blk_below k.2.1 hb, blk_below k.2.2 hb⟩
theorem KB.alloc {w W : World} {g h : Nat} {oa ob : Obj} (k : KB w g h oa ob W) (o : Obj) : KB w g h oa ob (W.alloc o) := ⟨below_alloc k.1 o, blk_alloc k.2.1 o, blk_alloc k.2.2 o⟩
theorem KB.drew {w W : World} {g h : Nat} {oa ob : Obj} (k : KB w g h oa ob W) : KB w g h oa ob W.drew := ⟨below_drew1 k.1, blk_drew k.2.1, blk_drew k.2.2⟩
abbrev boxC (k : Int) (A : Option Addr) (n c : Nat) (six : Bool) (b : Int) : Obj := .cells #[.int .u8 k, .slice A n c, .bool six, .int .u8 b] 45 (0, 0)
theorem bcell {W w1 : World} (hb : Below W.heap.size W w1) : (∀ b o, b < W.heap.size → w1.cell? ⟨b, o, none⟩ = W.cell? ⟨b, o, none⟩) ∧ (∀ b o, b < W.heap.size → w1.frozen? ⟨b, o, none⟩ = W.frozen? ⟨b, o, none⟩) :=
  ⟨fun b o h => hb.cell (p := ⟨b, o, none⟩) h, fun b o h => hb.frozen (p := ⟨b, o, none⟩) h⟩
theorem bsize {W w1 : World} (hb : Below W.heap.size W w1) : (∀ b, b < W.heap.size → b < w1.heap.size) ∧ (∀ b, b < W.heap.size → b ≤ w1.heap.size) ∧ (∀ b, b < W.heap.size → b < w1.heap.size + 1) ∧
    (∀ b, b < W.heap.size → ¬ b = w1.heap.size) ∧ (∀ b, b < W.heap.size → ¬ w1.heap.size = b) ∧ (∀ b, b < W.heap.size → ¬ b = w1.heap.size + 1) ∧ (∀ b, b < W.heap.size → ¬ w1.heap.size + 1 = b) := by
  have := hb.size
  refine ⟨fun b h => ?_, fun b h => ?_, fun b h => ?_, fun b h => ?_, fun b h => ?_, fun b h => ?_, fun b h => ?_⟩ <;> omega
def Nw (w : World) (g h i : Nat) : Prop := w.heap.size ≤ i ∧ g ≠ i ∧ h ≠ i
theorem KB.nw {w W : World} {g h : Nat} {oa ob : Obj} (k : KB w g h oa ob W) : Nw w g h W.heap.size := ⟨below_size k.1, Nat.ne_of_lt (blk_lt k.2.1), Nat.ne_of_lt (blk_lt k.2.2)⟩
theorem KB.nw1 {w W : World} {g h : Nat} {oa ob : Obj} (k : KB w g h oa ob W) : Nw w g h (W.heap.size + 1) := by
  have ⟨h1, h2, h3⟩ := k.nw
  have h4 := blk_lt k.2.1
  have h5 := blk_lt k.2.2
  exact ⟨by omega, by omega, by omega⟩
theorem KB.set {w W : World} {g h i j : Nat} {v : Value} {oa ob : Obj} (k : KB w g h oa ob W) (n : Nw w g h i) : KB w g h oa ob (W.setCell ⟨i, j, none⟩ v) :=
  ⟨below_set k.1 n.1, (Below.heap_setCell W ⟨i, j, none⟩ v g n.2.1).trans k.2.1, (Below.heap_setCell W ⟨i, j, none⟩ v h n.2.2).trans k.2.2⟩
theorem lt_alloc {W : World} {o : Obj} : W.heap.size < (W.alloc o).heap.size := by simp
theorem lt_alloc2 {W : World} {o p : Obj} : W.heap.size < ((W.alloc o).alloc p).heap.size := by simp; omega
theorem lt_alloc3 {W : World} {o p : Obj} : W.heap.size + 1 < ((W.alloc o).alloc p).heap.size := by simp
def Tb (i : Nat) (k : Int) (nm ad : ByteArray) (n : Int) (W : World) : Prop := W.heap[i]? = some (.cells #[.int .i64 k, .string nm, .string ad, .int .i64 n] 30 (0, 0))
theorem Tb.step {i : Nat} {k n : Int} {nm ad : ByteArray} {W W1 : World} (h : Tb i k nm ad n W) (hb : Below W.heap.size W W1) : Tb i k nm ad n W1 := blk_below h hb
theorem Tb.new {k n : Int} {nm ad : ByteArray} {W : World} : Tb W.heap.size k nm ad n (W.alloc (.cells #[.int .i64 k, .string nm, .string ad, .int .i64 n] 30)) := blk_new W _
theorem Tb.new1 {k n : Int} {nm ad : ByteArray} {W : World} {o : Obj} : Tb (W.heap.size + 1) k nm ad n ((W.alloc o).alloc (.cells #[.int .i64 k, .string nm, .string ad, .int .i64 n] 30)) := by
  have := blk_new (W.alloc o) (.cells #[.int .i64 k, .string nm, .string ad, .int .i64 n] 30 (0, 0))
  rw [show (W.alloc o).heap.size = W.heap.size + 1 by simp] at this
  exact this
theorem Tb.new4 {k n : Int} {nm ad : ByteArray} {W : World} {p q r s : Addr} {a b c d : Value} : Tb W.heap.size k nm ad n (((((W.setCell p a).setCell q b).setCell r c).setCell s d).alloc (.cells #[.int .i64 k, .string nm, .string ad, .int .i64 n] 30)) := by
  have := blk_new ((((W.setCell p a).setCell q b).setCell r c).setCell s d) (.cells #[.int .i64 k, .string nm, .string ad, .int .i64 n] 30 (0, 0))
  rw [show ((((W.setCell p a).setCell q b).setCell r c).setCell s d).heap.size = W.heap.size by simp [World.setCell]] at this
  exact this
theorem Tb.newD {k n : Int} {nm ad : ByteArray} {W : World} : Tb W.heap.size k nm ad n (W.drew.alloc (.cells #[.int .i64 k, .string nm, .string ad, .int .i64 n] 30)) := blk_new W.drew _
theorem Tb.newD1 {k n : Int} {nm ad : ByteArray} {W : World} {o : Obj} : Tb (W.heap.size + 1) k nm ad n ((W.drew.alloc o).alloc (.cells #[.int .i64 k, .string nm, .string ad, .int .i64 n] 30)) := Tb.new1 (W := W.drew)
theorem Tb.alloc {i : Nat} {k n : Int} {nm ad : ByteArray} {W : World} {o : Obj} (h : Tb i k nm ad n W) : Tb i k nm ad n (W.alloc o) := blk_alloc h o
theorem Tb.drew {i : Nat} {k n : Int} {nm ad : ByteArray} {W : World} (h : Tb i k nm ad n W) : Tb i k nm ad n W.drew := blk_drew h
theorem Tb.far {i j m : Nat} {v : Value} {k n : Int} {nm ad : ByteArray} {W : World} (h : Tb i k nm ad n W) (hne : i ≠ j) : Tb i k nm ad n (W.setCell ⟨j, m, none⟩ v) := blk_far h (p := ⟨j, m, none⟩) hne v
theorem Tb.put {i : Nat} {k n : Int} {nm ad : ByteArray} {W : World} (h : Tb i 0 ⟨#[]⟩ ⟨#[]⟩ 0 W) :
    Tb i k nm ad n ((((W.setCell ⟨i, 0, none⟩ (.int .i64 k)).setCell ⟨i, 1, none⟩ (.string nm)).setCell ⟨i, 2, none⟩ (.string ad)).setCell ⟨i, 3, none⟩ (.int .i64 n)) :=
  (blk_set (blk_set (blk_set (blk_set h 0 _) 1 _) 2 _) 3 _).trans rfl
def K2 (w : World) (g h : Nat) (oa ob : Obj) (i j : Nat) (ka : Int) (na aa : ByteArray) (pa : Int) (kb : Int) (nb ab : ByteArray) (pb : Int) (W : World) : Prop := KB w g h oa ob W ∧ Tb i ka na aa pa W ∧ Tb j kb nb ab pb W
theorem K2.step {w W W1 : World} {g h i j : Nat} {oa ob : Obj} {ka kb pa pb : Int} {na nb aa ab : ByteArray} (k : K2 w g h oa ob i j ka na aa pa kb nb ab pb W) (hb : Below W.heap.size W W1) : K2 w g h oa ob i j ka na aa pa kb nb ab pb W1 := ⟨k.1.step hb, k.2.1.step hb, k.2.2.step hb⟩
theorem K2.drew {w W : World} {g h i j : Nat} {oa ob : Obj} {ka kb pa pb : Int} {na nb aa ab : ByteArray} (k : K2 w g h oa ob i j ka na aa pa kb nb ab pb W) : K2 w g h oa ob i j ka na aa pa kb nb ab pb W.drew := ⟨k.1.drew, k.2.1.drew, k.2.2.drew⟩
theorem K2.all {w W : World} {g h i j : Nat} {oa ob : Obj} {ka kb pa pb : Int} {na nb aa ab : ByteArray} (k : K2 w g h oa ob i j ka na aa pa kb nb ab pb W) :
    W.cell? ⟨i, 0, none⟩ = some (.int .i64 ka) ∧ W.cell? ⟨i, 1, none⟩ = some (.string na) ∧ W.cell? ⟨i, 2, none⟩ = some (.string aa) ∧ W.cell? ⟨i, 3, none⟩ = some (.int .i64 pa) ∧
    W.cell? ⟨j, 0, none⟩ = some (.int .i64 kb) ∧ W.cell? ⟨j, 1, none⟩ = some (.string nb) ∧ W.cell? ⟨j, 2, none⟩ = some (.string ab) ∧ W.cell? ⟨j, 3, none⟩ = some (.int .i64 pb) ∧ K2 w g h oa ob i j ka na aa pa kb nb ab pb W :=
  ⟨(blk_cell k.2.1 0).trans rfl, (blk_cell k.2.1 1).trans rfl, (blk_cell k.2.1 2).trans rfl, (blk_cell k.2.1 3).trans rfl, (blk_cell k.2.2 0).trans rfl, (blk_cell k.2.2 1).trans rfl, (blk_cell k.2.2 2).trans rfl, (blk_cell k.2.2 3).trans rfl, k⟩
theorem KB.all {w W : World} {g h : Nat} {ka kb : Int} {A B : Option Addr} {n m c d : Nat} {sa sb : Bool} {ba bb : Int} (k : KB w g h (boxC ka A n c sa ba) (boxC kb B m d sb bb) W) :
    W.cell? ⟨g, 0, none⟩ = some (.int .u8 ka) ∧ W.cell? ⟨g, 1, none⟩ = some (.slice A n c) ∧ W.cell? ⟨g, 2, none⟩ = some (.bool sa) ∧ W.cell? ⟨g, 3, none⟩ = some (.int .u8 ba) ∧
    W.cell? ⟨h, 0, none⟩ = some (.int .u8 kb) ∧ W.cell? ⟨h, 1, none⟩ = some (.slice B m d) ∧ W.cell? ⟨h, 2, none⟩ = some (.bool sb) ∧ W.cell? ⟨h, 3, none⟩ = some (.int .u8 bb) ∧ KB w g h (boxC ka A n c sa ba) (boxC kb B m d sb bb) W :=
  ⟨(blk_cell k.2.1 0).trans rfl, (blk_cell k.2.1 1).trans rfl, (blk_cell k.2.1 2).trans rfl, (blk_cell k.2.1 3).trans rfl, (blk_cell k.2.2 0).trans rfl, (blk_cell k.2.2 1).trans rfl, (blk_cell k.2.2 2).trans rfl, (blk_cell k.2.2 3).trans rfl, k⟩
theorem K2.all2 {w W : World} {g h i j n m c d : Nat} {xa xb : Int} {A B : Option Addr} {sa sb : Bool} {ba bb : Int} {ka kb pa pb : Int} {na nb aa ab : ByteArray} (k : K2 w g h (boxC xa A n c sa ba) (boxC xb B m d sb bb) i j ka na aa pa kb nb ab pb W) :
    W.cell? ⟨i, 0, none⟩ = some (.int .i64 ka) ∧ W.cell? ⟨i, 1, none⟩ = some (.string na) ∧ W.cell? ⟨i, 2, none⟩ = some (.string aa) ∧ W.cell? ⟨i, 3, none⟩ = some (.int .i64 pa) ∧
    W.cell? ⟨j, 0, none⟩ = some (.int .i64 kb) ∧ W.cell? ⟨j, 1, none⟩ = some (.string nb) ∧ W.cell? ⟨j, 2, none⟩ = some (.string ab) ∧ W.cell? ⟨j, 3, none⟩ = some (.int .i64 pb) ∧
    W.cell? ⟨g, 0, none⟩ = some (.int .u8 xa) ∧ W.cell? ⟨h, 0, none⟩ = some (.int .u8 xb) ∧ K2 w g h (boxC xa A n c sa ba) (boxC xb B m d sb bb) i j ka na aa pa kb nb ab pb W :=
  have ⟨a1, a2, a3, a4, a5, a6, a7, a8, _⟩ := K2.all k
  have ⟨b1, _, _, _, b5, _⟩ := KB.all k.1
  ⟨a1, a2, a3, a4, a5, a6, a7, a8, b1, b5, k⟩
theorem better_val {a b c d : Int} {v : Bool} (ha : Sm a) (hb : Sm b) (hc : Sm c) (hd : Sm d) (h : betterB a b c d = v) (W : World) : Hid (Calls Try.prog 15 #[cx a b, cx c d] W fun e w' => e = .returned (.bool v) ∧ w' = W) := by
  subst h
  exact Lib.hid (rank_Better.any a b c d ha hb hc hd W)
/-- Two triggers in blocks of their own. -/
def KT (w : World) (g h : Nat) (oa ob : Obj) (ka : Int) (na aa : ByteArray) (pa : Int) (kb : Int) (nb ab : ByteArray) (pb : Int) (v9 v10 : Value) (W : World) : Prop :=
  ∃ i j : Nat, v9 = .pointer (some ⟨i, 0, none⟩) ∧ v10 = .pointer (some ⟨j, 0, none⟩) ∧ KB w g h oa ob W ∧ Tb i ka na aa pa W ∧ Tb j kb nb ab pb W
set_option maxHeartbeats 4000000 in
set_option maxRecDepth 100000 in
theorem rankBetter_any (k : Nat) (z y : Int) (ka : Int) (A : Option Addr) (c : Nat) (ns : List Int) (sa : Bool) (ba : Int) (na aa : ByteArray) (pa ca La : Int)
    (kb : Int) (B : Option Addr) (d : Nat) (ms : List Int) (sb : Bool) (bb : Int) (nb ab : ByteArray) (pb cb Lb : Int) (w : World)
    (hr0 : Kd.C (Kd.int .u8) w A ns.length ns) (hcap : ns.length ≤ c) (hr1 : Kd.C (Kd.int .u8) w B ms.length ms) (hcap1 : ms.length ≤ d)
    (hz0 : 0 ≤ z) (hz1 : z ≤ 255) (hy0 : 0 ≤ y) (hy1 : y ≤ 255) (hka0 : 0 ≤ ka) (hka1 : ka ≤ 255) (hkb0 : 0 ≤ kb) (hkb1 : kb ≤ 255)
    (hTa : bolterlaw13_Code_Trigger.f k ka ns sa ba = some (ka % 7, na, aa, pa)) (hCa : name_Count.f k na = some ca)
    (hLa : bolterlaw18_Length.f k (ka % 7) na aa pa = some La) (hEa : lenT ca aa pa = La) (ha0 : 0 ≤ La) (ha1 : La ≤ 255)
    (hTb : bolterlaw13_Code_Trigger.f k kb ms sb bb = some (kb % 7, nb, ab, pb)) (hCb : name_Count.f k nb = some cb)
    (hLb : bolterlaw18_Length.f k (kb % 7) nb ab pb = some Lb) (hEb : lenT cb ab pb = Lb) (hb0 : 0 ≤ Lb) (hb1 : Lb ≤ 255) :
    Calls Try.prog 6 #[.int .u8 z, .agg #[.int .u8 ka, .slice A ns.length c, .bool sa, .int .u8 ba], .int .u8 y, .agg #[.int .u8 kb, .slice B ms.length d, .bool sb, .int .u8 bb]] w fun e w' => e = .returned (.bool true) ∧ Below w.heap.size w w' := by
  have HR0 := Lib.hid hr0
  have HR1 := Lib.hid hr1
  have HTa := Lib.hid hTa
  have HLa := Lib.hid hLa
  have HTb := Lib.hid hTb
  have HLb := Lib.hid hLb
  have HOa := fun W => Lib.hid (rank_Of.any k (z % 4) (ka % 7) na aa pa ca W hCa (by rw [hEa]; exact ha0) (by rw [hEa]; exact ha1))
  have HOb := fun W => Lib.hid (rank_Of.any k (y % 4) (kb % 7) nb ab pb cb W hCb (by rw [hEb]; exact hb0) (by rw [hEb]; exact hb1))
  rw [hEa, show rankI (ka % 7) La = 256 * (ka % 7) + 255 - La from if_pos ⟨by omega, by omega⟩] at HOa
  rw [hEb, show rankI (kb % 7) Lb = 256 * (kb % 7) + 255 - Lb from if_pos ⟨by omega, by omega⟩] at HOb
  have CA : ∀ W, KB w w.heap.size (w.heap.size + 1) (boxC ka A ns.length c sa ba) (boxC kb B ms.length d sb bb) W → Calls Try.prog 16 #[.agg #[.int .u8 ka, .slice A ns.length c, .bool sa, .int .u8 ba]] W fun e w' => e = .returned (.agg #[.int .i64 (ka % 7), .string na, .string aa, .int .i64 pa]) ∧ KB w w.heap.size (w.heap.size + 1) (boxC ka A ns.length c sa ba) (boxC kb B ms.length d sb bb) w' ∧ Below W.heap.size W w' :=
    fun W h => (bolterlaw13_Code_Trigger.calls k ka A c ns sa ba (ka % 7) na aa pa W (Kd.C_below HR0.out h.1) hcap HTa.out).mono fun e w' ⟨h1, h2⟩ => ⟨h1, h.step h2, h2⟩
  have CB : ∀ W, KB w w.heap.size (w.heap.size + 1) (boxC ka A ns.length c sa ba) (boxC kb B ms.length d sb bb) W → Calls Try.prog 16 #[.agg #[.int .u8 kb, .slice B ms.length d, .bool sb, .int .u8 bb]] W fun e w' => e = .returned (.agg #[.int .i64 (kb % 7), .string nb, .string ab, .int .i64 pb]) ∧ KB w w.heap.size (w.heap.size + 1) (boxC ka A ns.length c sa ba) (boxC kb B ms.length d sb bb) w' ∧ Below W.heap.size W w' :=
    fun W h => (bolterlaw13_Code_Trigger.calls k kb B d ms sb bb (kb % 7) nb ab pb W (Kd.C_below HR1.out h.1) hcap1 HTb.out).mono fun e w' ⟨h1, h2⟩ => ⟨h1, h.step h2, h2⟩
  clear hr0 hr1 hTa hLa hTb hLb hCa hCb hEa hEb
  go_enter Try.func6, Try.ntmps6
  go_wp2_with (first
    | (go_at_call 7; refine (awake18.any _).mono ?_; rintro e w1 ⟨rfl, hb⟩; have K0 : Hid (KB w w.heap.size (w.heap.size + 1) (boxC ka A ns.length c sa ba) (boxC kb B ms.length d sb bb) w1) := Lib.hid ⟨below_step (below_alloc (below_alloc (Below.refl w.heap.size w) _) _) hb, blk_below (blk_alloc (blk_new w _) _) hb, blk_below (by have := blk_new (w.alloc (boxC ka A ns.length c sa ba)) (boxC kb B ms.length d sb bb); rw [show (w.alloc (boxC ka A ns.length c sa ba)).heap.size = w.heap.size + 1 by simp] at this; exact this) hb⟩; clear hb))
  go_cut [9, 10] (fun v9 v10 wc => KT w w.heap.size (w.heap.size + 1) (boxC ka A ns.length c sa ba) (boxC kb B ms.length d sb bb) (ka % 7) na aa pa (kb % 7) nb ab pb v9 v10 wc)
  case first =>
    have ⟨f1, f2, f3, f4, f5, f6, f7, f8, kk⟩ := KB.all K0.out
    clear K0
    go_region_held3 (fun W => W.cell? ⟨w.heap.size, 0, none⟩ = some (.int .u8 ka) ∧ W.cell? ⟨w.heap.size, 1, none⟩ = some (.slice A ns.length c) ∧ W.cell? ⟨w.heap.size, 2, none⟩ = some (.bool sa) ∧ W.cell? ⟨w.heap.size, 3, none⟩ = some (.int .u8 ba) ∧
    W.cell? ⟨w.heap.size + 1, 0, none⟩ = some (.int .u8 kb) ∧ W.cell? ⟨w.heap.size + 1, 1, none⟩ = some (.slice B ms.length d) ∧ W.cell? ⟨w.heap.size + 1, 2, none⟩ = some (.bool sb) ∧ W.cell? ⟨w.heap.size + 1, 3, none⟩ = some (.int .u8 bb) ∧ KB w w.heap.size (w.heap.size + 1) (boxC ka A ns.length c sa ba) (boxC kb B ms.length d sb bb) W)
      (first | ((with_reducible refine KB.all ?_); repeat (with_reducible first | assumption | apply KB.drew | apply KB.alloc | apply KB.set | apply KB.nw | apply KB.nw1)))
      (first
        | (go_at_call 16; (with_reducible refine (CA _ ?_).mono ?_); (repeat (with_reducible first | assumption | apply KB.drew | apply KB.alloc)); rintro e wa ⟨rfl, kA, hbA⟩; obtain ⟨hcA, hfA⟩ := bcell hbA; obtain ⟨zA1, zA2, zA3, zA4, zA5, zA6, zA7⟩ := bsize hbA; have hsA := hbA.size; (try simp at hsA); (try have dA1 := zA1 w1.heap.size lt_alloc); (try have dA2 := zA1 w1.heap.size lt_alloc2); (try have dA3 := zA1 (w1.heap.size + 1) lt_alloc3))
        | (go_at_call 16; (with_reducible refine (CB _ ?_).mono ?_); (repeat (with_reducible first | assumption | apply KB.drew | apply KB.alloc)); rintro e wb ⟨rfl, kB, hbB⟩; obtain ⟨hcB, hfB⟩ := bcell hbB; obtain ⟨zB1, zB2, zB3, zB4, zB5, zB6, zB7⟩ := bsize hbB; have hsB := hbB.size; (try simp at hsB)))
    all_goals (go_wp2_with fail; go_meet)
    all_goals refine ⟨_, _, rfl, rfl, ?_, ?_, ?_⟩
    all_goals (clear HR0 HR1 HTa HTb HLa HLb HOa HOb CA CB)
    all_goals repeat (with_reducible first | assumption | apply KB.drew | apply KB.alloc | apply KB.set | apply KB.nw | apply KB.nw1 | apply Tb.new | apply Tb.new1 | apply Tb.new4 | apply Tb.newD | apply Tb.newD1 | apply Tb.put | apply Tb.far | apply Tb.alloc | apply Tb.drew | refine Tb.step ?_ hbB | refine Tb.step ?_ hbA)
    all_goals (first | omega | trace_state)
  case rest =>
    obtain ⟨i, j, rfl, rfl, k1, k2, k3⟩ := hcut
    have kk : K2 w w.heap.size (w.heap.size + 1) (boxC ka A ns.length c sa ba) (boxC kb B ms.length d sb bb) i j (ka % 7) na aa pa (kb % 7) nb ab pb wc := ⟨k1, k2, k3⟩
    have CP : ∀ W, K2 w w.heap.size (w.heap.size + 1) (boxC ka A ns.length c sa ba) (boxC kb B ms.length d sb bb) i j (ka % 7) na aa pa (kb % 7) nb ab pb W → Calls Try.prog 9 #[.int .i64 (z % 4), .agg #[.int .i64 (ka % 7), .string na, .string aa, .int .i64 pa]] W fun e w' => e = .returned (cx (z % 4) (256 * (ka % 7) + 255 - La)) ∧ K2 w w.heap.size (w.heap.size + 1) (boxC ka A ns.length c sa ba) (boxC kb B ms.length d sb bb) i j (ka % 7) na aa pa (kb % 7) nb ab pb w' :=
      fun W h => (HOa W).out.mono fun e w' ⟨h1, h2⟩ => ⟨h1, h.step h2⟩
    have CQ : ∀ W, K2 w w.heap.size (w.heap.size + 1) (boxC ka A ns.length c sa ba) (boxC kb B ms.length d sb bb) i j (ka % 7) na aa pa (kb % 7) nb ab pb W → Calls Try.prog 9 #[.int .i64 (y % 4), .agg #[.int .i64 (kb % 7), .string nb, .string ab, .int .i64 pb]] W fun e w' => e = .returned (cx (y % 4) (256 * (kb % 7) + 255 - Lb)) ∧ K2 w w.heap.size (w.heap.size + 1) (boxC ka A ns.length c sa ba) (boxC kb B ms.length d sb bb) i j (ka % 7) na aa pa (kb % 7) nb ab pb w' :=
      fun W h => (HOb W).out.mono fun e w' ⟨h1, h2⟩ => ⟨h1, h.step h2⟩
    clear HOa HOb CA CB k1 k2 k3
    have ⟨f1, f2, f3, f4, f5, f6, f7, f8, kk⟩ := K2.all kk
    have tz : Int.tmod z 4 = z % 4 := Int.tmod_eq_emod_of_nonneg hz0
    have ty : Int.tmod y 4 = y % 4 := Int.tmod_eq_emod_of_nonneg hy0
    have wz : IntKind.i64.wrap (z % 4) = z % 4 := IntWalk.i64_in _ ⟨by omega, by omega⟩
    have wy : IntKind.i64.wrap (y % 4) = y % 4 := IntWalk.i64_in _ ⟨by omega, by omega⟩
    go_wp2_with fail
    go_region_held3 (fun W => W.cell? ⟨i, 0, none⟩ = some (.int .i64 (ka % 7)) ∧ W.cell? ⟨i, 1, none⟩ = some (.string na) ∧ W.cell? ⟨i, 2, none⟩ = some (.string aa) ∧ W.cell? ⟨i, 3, none⟩ = some (.int .i64 pa) ∧
    W.cell? ⟨j, 0, none⟩ = some (.int .i64 (kb % 7)) ∧ W.cell? ⟨j, 1, none⟩ = some (.string nb) ∧ W.cell? ⟨j, 2, none⟩ = some (.string ab) ∧ W.cell? ⟨j, 3, none⟩ = some (.int .i64 pb) ∧ K2 w w.heap.size (w.heap.size + 1) (boxC ka A ns.length c sa ba) (boxC kb B ms.length d sb bb) i j (ka % 7) na aa pa (kb % 7) nb ab pb W)
      (first | ((with_reducible refine K2.all ?_); repeat (with_reducible first | assumption | apply K2.drew)))
      (first
        | (go_at_call 9; (with_reducible refine (CP _ ?_).mono ?_); (repeat (with_reducible first | assumption | apply K2.drew)); rintro e wp ⟨rfl, kP⟩)
        | (go_at_call 9; (with_reducible refine (CQ _ ?_).mono ?_); (repeat (with_reducible first | assumption | apply K2.drew)); rintro e wq ⟨rfl, kQ⟩)
        | (go_at_call 9; trace_state; fail))
    clear tz ty wz wy f1 f2 f3 f4 f5 f6 f7 f8 kk CP CQ
    have sp1 : Sm (z % 4) := by show Int.natAbs _ < _; omega
    have sq1 : Sm (y % 4) := by show Int.natAbs _ < _; omega
    have sp2 : Sm (256 * (ka % 7) + 255 - La) := by show Int.natAbs _ < _; omega
    have sq2 : Sm (256 * (kb % 7) + 255 - Lb) := by show Int.natAbs _ < _; omega
    have VPP := fun W => better_val (v := false) sp1 sp2 sp1 sp2 (by unfold betterB; rw [if_pos rfl]; exact decide_eq_false (by omega)) W
    by_cases hzy : z % 4 = y % 4
    · have ez : ((z % 4 : Int) == y % 4) = true := beq_iff_eq.2 hzy
      have nz : ¬ z % 4 < y % 4 := by omega
      have ta : Int.tmod ka 7 = ka % 7 := Int.tmod_eq_emod_of_nonneg hka0
      have tb : Int.tmod kb 7 = kb % 7 := Int.tmod_eq_emod_of_nonneg hkb0
      have CL : ∀ W, K2 w w.heap.size (w.heap.size + 1) (boxC ka A ns.length c sa ba) (boxC kb B ms.length d sb bb) i j (ka % 7) na aa pa (kb % 7) nb ab pb W → Calls Try.prog 10 #[.agg #[.int .i64 (ka % 7), .string na, .string aa, .int .i64 pa]] W fun e w' => e = .returned (.int .i64 La) ∧ K2 w w.heap.size (w.heap.size + 1) (boxC ka A ns.length c sa ba) (boxC kb B ms.length d sb bb) i j (ka % 7) na aa pa (kb % 7) nb ab pb w' :=
        fun W h => (bolterlaw18_Length.calls k (ka % 7) na aa pa La W HLa.out).mono fun e w' ⟨h1, h2⟩ => ⟨h1, h.step h2⟩
      have CM : ∀ W, K2 w w.heap.size (w.heap.size + 1) (boxC ka A ns.length c sa ba) (boxC kb B ms.length d sb bb) i j (ka % 7) na aa pa (kb % 7) nb ab pb W → Calls Try.prog 10 #[.agg #[.int .i64 (kb % 7), .string nb, .string ab, .int .i64 pb]] W fun e w' => e = .returned (.int .i64 Lb) ∧ K2 w w.heap.size (w.heap.size + 1) (boxC ka A ns.length c sa ba) (boxC kb B ms.length d sb bb) i j (ka % 7) na aa pa (kb % 7) nb ab pb w' :=
        fun W h => (bolterlaw18_Length.calls k (kb % 7) nb ab pb Lb W HLb.out).mono fun e w' ⟨h1, h2⟩ => ⟨h1, h.step h2⟩
      have ⟨f1, f2, f3, f4, f5, f6, f7, f8, f9, f10, kk⟩ := K2.all2 kQ
      rcases Int.lt_trichotomy (ka % 7) (kb % 7) with hk | hk | hk
      · have hd : decide (ka % 7 < kb % 7) = true := decide_eq_true hk
        have VPQ := fun W => better_val (v := true) sp1 sp2 sq1 sq2 (by unfold betterB; rw [if_pos hzy]; exact decide_eq_true (by omega)) W
        have VQP := fun W => better_val (v := false) sq1 sq2 sp1 sp2 (by unfold betterB; rw [if_pos hzy.symm]; exact decide_eq_false (by omega)) W
        clear sp1 sp2 sq1 sq2 hzy
        go_wp2_with (first | (go_at_call 15; (with_reducible refine (VPP _).out.mono ?_); rintro e wx ⟨rfl, rfl⟩) | (go_at_call 15; (with_reducible refine (VPQ _).out.mono ?_); rintro e wx ⟨rfl, rfl⟩) | (go_at_call 15; (with_reducible refine (VQP _).out.mono ?_); rintro e wx ⟨rfl, rfl⟩))
        go_quiet (fail)
        go_wp2_with (first | (go_at_call 15; (with_reducible refine (VPP _).out.mono ?_); rintro e wx ⟨rfl, rfl⟩) | (go_at_call 15; (with_reducible refine (VPQ _).out.mono ?_); rintro e wx ⟨rfl, rfl⟩) | (go_at_call 15; (with_reducible refine (VQP _).out.mono ?_); rintro e wx ⟨rfl, rfl⟩))
        go_ret
        exact ⟨rfl, by first | exact kM.1.1 | exact kQ.1.1 | exact (K2.drew kQ).1.1 | (apply pw_below_drewN; exact kQ.1.1)⟩
      · have hn : ¬ ka % 7 < kb % 7 := by omega
        have hd : decide (ka % 7 < kb % 7) = false := decide_eq_false hn
        have ek : ((ka % 7 : Int) == kb % 7) = true := beq_iff_eq.2 hk
        by_cases hL : Lb < La
        · have hg : decide (Lb < La) = true := decide_eq_true hL
          have VPQ := fun W => better_val (v := true) sp1 sp2 sq1 sq2 (by unfold betterB; rw [if_pos hzy]; exact decide_eq_true (by omega)) W
          have VQP := fun W => better_val (v := false) sq1 sq2 sp1 sp2 (by unfold betterB; rw [if_pos hzy.symm]; exact decide_eq_false (by omega)) W
          clear sp1 sp2 sq1 sq2 hzy
          clear hk
          go_wp2_with (first | (go_at_call 15; (with_reducible refine (VPP _).out.mono ?_); rintro e wx ⟨rfl, rfl⟩) | (go_at_call 15; (with_reducible refine (VPQ _).out.mono ?_); rintro e wx ⟨rfl, rfl⟩) | (go_at_call 15; (with_reducible refine (VQP _).out.mono ?_); rintro e wx ⟨rfl, rfl⟩))
          go_region_held3 (fun W => W.cell? ⟨i, 0, none⟩ = some (.int .i64 (ka % 7)) ∧ W.cell? ⟨i, 1, none⟩ = some (.string na) ∧ W.cell? ⟨i, 2, none⟩ = some (.string aa) ∧ W.cell? ⟨i, 3, none⟩ = some (.int .i64 pa) ∧
          W.cell? ⟨j, 0, none⟩ = some (.int .i64 (kb % 7)) ∧ W.cell? ⟨j, 1, none⟩ = some (.string nb) ∧ W.cell? ⟨j, 2, none⟩ = some (.string ab) ∧ W.cell? ⟨j, 3, none⟩ = some (.int .i64 pb) ∧
          W.cell? ⟨w.heap.size, 0, none⟩ = some (.int .u8 ka) ∧ W.cell? ⟨w.heap.size + 1, 0, none⟩ = some (.int .u8 kb) ∧ K2 w w.heap.size (w.heap.size + 1) (boxC ka A ns.length c sa ba) (boxC kb B ms.length d sb bb) i j (ka % 7) na aa pa (kb % 7) nb ab pb W)
          (first | ((with_reducible refine K2.all2 ?_); repeat (with_reducible first | assumption | apply K2.drew)))
          (first
            | (go_at_call 10; (with_reducible refine (CL _ ?_).mono ?_); (repeat (with_reducible first | assumption | apply K2.drew)); rintro e wl ⟨rfl, kL⟩)
            | (go_at_call 10; (with_reducible refine (CM _ ?_).mono ?_); (repeat (with_reducible first | assumption | apply K2.drew)); rintro e wm ⟨rfl, kM⟩))
          go_wp2_with (first | (go_at_call 15; (with_reducible refine (VPP _).out.mono ?_); rintro e wx ⟨rfl, rfl⟩) | (go_at_call 15; (with_reducible refine (VPQ _).out.mono ?_); rintro e wx ⟨rfl, rfl⟩) | (go_at_call 15; (with_reducible refine (VQP _).out.mono ?_); rintro e wx ⟨rfl, rfl⟩))
          go_ret
          exact ⟨rfl, by first | exact kM.1.1 | exact kQ.1.1 | exact (K2.drew kQ).1.1 | (apply pw_below_drewN; exact kQ.1.1)⟩
        · have hg : decide (Lb < La) = false := decide_eq_false hL
          have VPQ := fun W => better_val (v := false) sp1 sp2 sq1 sq2 (by unfold betterB; rw [if_pos hzy]; exact decide_eq_false (by omega)) W
          have VQP := fun W => better_val (v := decide (256 * (kb % 7) + 255 - Lb < 256 * (ka % 7) + 255 - La)) sq1 sq2 sp1 sp2 (by unfold betterB; rw [if_pos hzy.symm]) W
          clear sp1 sp2 sq1 sq2 hzy
          clear hk
          go_wp2_with (first | (go_at_call 15; (with_reducible refine (VPP _).out.mono ?_); rintro e wx ⟨rfl, rfl⟩) | (go_at_call 15; (with_reducible refine (VPQ _).out.mono ?_); rintro e wx ⟨rfl, rfl⟩) | (go_at_call 15; (with_reducible refine (VQP _).out.mono ?_); rintro e wx ⟨rfl, rfl⟩))
          go_region_held3 (fun W => W.cell? ⟨i, 0, none⟩ = some (.int .i64 (ka % 7)) ∧ W.cell? ⟨i, 1, none⟩ = some (.string na) ∧ W.cell? ⟨i, 2, none⟩ = some (.string aa) ∧ W.cell? ⟨i, 3, none⟩ = some (.int .i64 pa) ∧
          W.cell? ⟨j, 0, none⟩ = some (.int .i64 (kb % 7)) ∧ W.cell? ⟨j, 1, none⟩ = some (.string nb) ∧ W.cell? ⟨j, 2, none⟩ = some (.string ab) ∧ W.cell? ⟨j, 3, none⟩ = some (.int .i64 pb) ∧
          W.cell? ⟨w.heap.size, 0, none⟩ = some (.int .u8 ka) ∧ W.cell? ⟨w.heap.size + 1, 0, none⟩ = some (.int .u8 kb) ∧ K2 w w.heap.size (w.heap.size + 1) (boxC ka A ns.length c sa ba) (boxC kb B ms.length d sb bb) i j (ka % 7) na aa pa (kb % 7) nb ab pb W)
          (first | ((with_reducible refine K2.all2 ?_); repeat (with_reducible first | assumption | apply K2.drew)))
          (first
            | (go_at_call 10; (with_reducible refine (CL _ ?_).mono ?_); (repeat (with_reducible first | assumption | apply K2.drew)); rintro e wl ⟨rfl, kL⟩)
            | (go_at_call 10; (with_reducible refine (CM _ ?_).mono ?_); (repeat (with_reducible first | assumption | apply K2.drew)); rintro e wm ⟨rfl, kM⟩))
          go_wp2_with (first | (go_at_call 15; (with_reducible refine (VPP _).out.mono ?_); rintro e wx ⟨rfl, rfl⟩) | (go_at_call 15; (with_reducible refine (VPQ _).out.mono ?_); rintro e wx ⟨rfl, rfl⟩) | (go_at_call 15; (with_reducible refine (VQP _).out.mono ?_); rintro e wx ⟨rfl, rfl⟩))
          go_ret
          exact ⟨rfl, by first | exact kM.1.1 | exact kQ.1.1 | exact (K2.drew kQ).1.1 | (apply pw_below_drewN; exact kQ.1.1)⟩
      · have hn : ¬ ka % 7 < kb % 7 := by omega
        have hd : decide (ka % 7 < kb % 7) = false := decide_eq_false hn
        have ek : ((ka % 7 : Int) == kb % 7) = false := beq_eq_false_iff_ne.2 (by omega)
        have VPQ := fun W => better_val (v := false) sp1 sp2 sq1 sq2 (by unfold betterB; rw [if_pos hzy]; exact decide_eq_false (by omega)) W
        have VQP := fun W => better_val (v := decide (256 * (kb % 7) + 255 - Lb < 256 * (ka % 7) + 255 - La)) sq1 sq2 sp1 sp2 (by unfold betterB; rw [if_pos hzy.symm]) W
        clear sp1 sp2 sq1 sq2 hzy
        go_wp2_with (first | (go_at_call 15; (with_reducible refine (VPP _).out.mono ?_); rintro e wx ⟨rfl, rfl⟩) | (go_at_call 15; (with_reducible refine (VPQ _).out.mono ?_); rintro e wx ⟨rfl, rfl⟩) | (go_at_call 15; (with_reducible refine (VQP _).out.mono ?_); rintro e wx ⟨rfl, rfl⟩))
        go_quiet (fail)
        go_wp2_with (first | (go_at_call 15; (with_reducible refine (VPP _).out.mono ?_); rintro e wx ⟨rfl, rfl⟩) | (go_at_call 15; (with_reducible refine (VPQ _).out.mono ?_); rintro e wx ⟨rfl, rfl⟩) | (go_at_call 15; (with_reducible refine (VQP _).out.mono ?_); rintro e wx ⟨rfl, rfl⟩))
        go_ret
        exact ⟨rfl, by first | exact kM.1.1 | exact kQ.1.1 | exact (K2.drew kQ).1.1 | (apply pw_below_drewN; exact kQ.1.1)⟩
    · have VPQ := fun W => better_val (v := decide (z % 4 < y % 4)) sp1 sp2 sq1 sq2 (by unfold betterB; rw [if_neg hzy]) W
      have VQP := fun W => better_val (v := decide (y % 4 < z % 4)) sq1 sq2 sp1 sp2 (by unfold betterB; rw [if_neg (fun h => hzy h.symm)]) W
      have eb : ((z % 4 : Int) == y % 4) = false := beq_eq_false_iff_ne.2 hzy
      clear sp1 sp2 sq1 sq2
      by_cases hlt : z % 4 < y % 4
      · have hgt : ¬ y % 4 < z % 4 := by omega
        rw [decide_eq_true hlt] at VPQ
        rw [decide_eq_false hgt] at VQP
        clear hzy hgt
        go_wp2_with (first | (go_at_call 15; (with_reducible refine (VPP _).out.mono ?_); rintro e wx ⟨rfl, rfl⟩) | (go_at_call 15; (with_reducible refine (VPQ _).out.mono ?_); rintro e wx ⟨rfl, rfl⟩) | (go_at_call 15; (with_reducible refine (VQP _).out.mono ?_); rintro e wx ⟨rfl, rfl⟩))
        go_ret
        exact ⟨rfl, kQ.1.1⟩
      · rw [decide_eq_false hlt] at VPQ
        clear hzy VQP
        go_wp2_with (first | (go_at_call 15; (with_reducible refine (VPP _).out.mono ?_); rintro e wx ⟨rfl, rfl⟩) | (go_at_call 15; (with_reducible refine (VPQ _).out.mono ?_); rintro e wx ⟨rfl, rfl⟩) | (go_at_call 15; (with_reducible refine (VQP _).out.mono ?_); rintro e wx ⟨rfl, rfl⟩))
        go_ret
        exact ⟨rfl, kQ.1.1⟩
end Go.Proofs.Ytiaageolmkplbaa.Hand
