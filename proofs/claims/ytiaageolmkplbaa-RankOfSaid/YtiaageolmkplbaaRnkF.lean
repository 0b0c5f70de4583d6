/- RankOf walked: for every zone and trigger made by numbers. -/
import Derived.Test.YtiaageolmkplbaaRnkE
import Derived.Test.YtiaageolmkplbaaPBase0x20
set_option linter.unusedVariables false
namespace Go.Proofs.Ytiaageolmkplbaa.Hand
open Go.RowKit Go.Proofs.YtiaageolmkplbaaW.PrintWords Go.Proofs.YtiaageolmkplbaaW.PrintLast Go.Proofs.Ytiaageolmkplbaa.PBase0 Go.Proofs.Ytiaageolmkplbaa.Flt
set_option maxHeartbeats 4000000 in
set_option maxRecDepth 100000 in
theorem rankOf_any (k : Nat) (zone kind : Int) (A : Option Addr) (c : Nat) (ns : List Int) (six : Bool) (bits : Int) (nm addr : ByteArray) (n cnt L : Int) (w : World) (hr0 : Kd.C (Kd.int .u8) w A ns.length ns) (hcap : ns.length ≤ c)
    (hz0 : 0 ≤ zone) (hz1 : zone ≤ 4294967295) (hk0 : 0 ≤ kind) (hk1 : kind ≤ 255) (hT : bolterlaw13_Trigger.f k kind ns six bits = some (kind % 7, nm, addr, n)) (hC : name_Count.f k nm = some cnt)
    (hL : bolterlaw18_Length.f k (kind % 7) nm addr n = some L) (hE : lenT cnt addr n = L) (h0 : 0 ≤ L) (h1 : L ≤ 255) :
    Calls Try.prog 4 #[.int .u32 zone, .int .u8 kind, .slice A ns.length c, .bool six, .int .u8 bits] w fun e w' => e = .returned (.bool true) ∧ Below w.heap.size w w' := by
  have m0 : 0 ≤ kind % 7 := by omega
  have m1 : kind % 7 < 7 := by omega
  have HR := Lib.hid hr0
  have HT := Lib.hid hT
  have HL := Lib.hid hL
  have e1 := fl_eq zone zone (by omega) (by omega)
  have e2 := fl_eq (256 * (kind % 7) + 255 - L) (256 * (kind % 7) + 255 - L) (by omega) (by omega)
  rw [decide_eq_true rfl] at e1 e2
  have HO := fun W => Lib.hid (rank_Of.any k zone (kind % 7) nm addr n cnt W hC (by rw [hE]; exact h0) (by rw [hE]; exact h1))
  rw [hE, show rankI (kind % 7) L = 256 * (kind % 7) + 255 - L from if_pos ⟨m0, m1⟩] at HO
  have HZ := fun W => Lib.hid (rank_Zone.any zone (256 * (kind % 7) + 255 - L) (by show zone.natAbs < _; omega) W)
  have HS := fun W => Lib.hid (rank_Step.any zone (256 * (kind % 7) + 255 - L) (by show Int.natAbs _ < _; omega) (by omega) W)
  have HN := fun W => Lib.hid (rank_Length.any zone (256 * (kind % 7) + 255 - L) (by show Int.natAbs _ < _; omega) (by omega) W)
  rw [show (256 * (kind % 7) + 255 - L) / 256 = kind % 7 by omega] at HS
  rw [show 255 - (256 * (kind % 7) + 255 - L) % 256 = L by omega] at HN
  unfold cx at HO HZ HS HN
  clear hr0 hT hL hC hE
  go_enter Try.func4, Try.ntmps4
  go_wp2_with (first
    | (go_at_call 7; refine (awake18.any _).mono ?_; rintro e w1 ⟨rfl, hb⟩; have D1 := Lib.hid hb; clear hb)
    | (go_at_call 8; refine (bolterlaw13_Trigger.calls k kind A c ns six bits (kind % 7) nm addr n _ (Kd.C_below HR.out D1.out) hcap HT.out).mono ?_; rintro e w2 ⟨rfl, hb⟩; have D2 := Lib.hid (below_step D1.out hb); clear hb)
    | (go_at_call 9; refine (HO _).out.mono ?_; rintro e w3 ⟨rfl, hb⟩; have D3 := Lib.hid (below_step (below_alloc D2.out _) hb); have B3 := Lib.hid (blk_below (g := w2.heap.size) (o := .cells #[.int .i64 (kind % 7), .string nm, .string addr, .int .i64 n] 30) (blk_new w2 _) hb); have c0 : w3.cell? ⟨w2.heap.size, 0, none⟩ = some (.int .i64 (kind % 7)) := (blk_cell B3.out 0).trans rfl; have c1 : w3.cell? ⟨w2.heap.size, 1, none⟩ = some (.string nm) := (blk_cell B3.out 1).trans rfl; have c2 : w3.cell? ⟨w2.heap.size, 2, none⟩ = some (.string addr) := (blk_cell B3.out 2).trans rfl; have c3 : w3.cell? ⟨w2.heap.size, 3, none⟩ = some (.int .i64 n) := (blk_cell B3.out 3).trans rfl; clear hb)
    | (go_at_call 10; refine (bolterlaw18_Length.calls k (kind % 7) nm addr n L _ HL.out).mono ?_; rintro e w4 ⟨rfl, hb⟩; have D4 := Lib.hid (below_step D3.out hb); clear hb c0 c1 c2 c3)
    | (go_at_call 11; refine (HZ _).out.mono ?_; rintro e w5 ⟨rfl, rfl⟩)
    | (go_at_call 12; refine (HS _).out.mono ?_; rintro e w6 ⟨rfl, rfl⟩)
    | (go_at_call 13; refine (HN _).out.mono ?_; rintro e w7 ⟨rfl, rfl⟩))
  go_ret
  exact ⟨rfl, D4.out⟩
end Go.Proofs.Ytiaageolmkplbaa.Hand
