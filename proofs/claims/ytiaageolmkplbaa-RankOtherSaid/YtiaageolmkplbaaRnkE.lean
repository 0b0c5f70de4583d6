/- RankOther walked: for every zone, kind and list of bytes of which a trigger is made. -/
import Derived.Test.YtiaageolmkplbaaRnkC
set_option linter.unusedVariables false
namespace Go.Proofs.Ytiaageolmkplbaa.Hand
open Go.RowKit Go.Proofs.YtiaageolmkplbaaW.PrintWords Go.Proofs.YtiaageolmkplbaaW.PrintLast Go.Proofs.Ytiaageolmkplbaa.PBase0 Go.Proofs.Ytiaageolmkplbaa.Flt
theorem f1792 : floatOfInt .f64 1792 = 4655596114794250240 := by decide +kernel
set_option maxHeartbeats 4000000 in
set_option maxRecDepth 100000 in
theorem rankOther_any (k : Nat) (zone kind : Int) (A : Option Addr) (c : Nat) (ns : List Int) (nm : ByteArray) (cnt : Int) (w : World) (hr0 : Kd.C (Kd.int .u8) w A ns.length ns) (hcap : ns.length ≤ c)
    (hz0 : -128 ≤ zone) (hz1 : zone ≤ 127) (hT : bolterlaw13_Trigger.f k 1 ns false 0 = some (1, nm, (⟨#[]⟩ : ByteArray), 0)) (hC : name_Count.f k nm = some cnt) (h0 : 0 ≤ cnt) (h1 : cnt ≤ 255) :
    Calls Try.prog 3 #[.int .i8 zone, .int .i64 kind, .slice A ns.length c] w fun e w' => e = .returned (.bool true) ∧ Below w.heap.size w w' := by
  have HR := Lib.hid hr0
  have HT := Lib.hid hT
  have HC := Lib.hid hC
  have e1 := fl_eq zone zone (by omega) (by omega)
  rw [decide_eq_true rfl] at e1
  have e3 : (FloatKind.f64.format.order 4655596114794250240 4655596114794250240 == some .eq) = true := by decide +kernel
  clear hr0 hT hC
  have HO := fun W => Lib.hid (rank_Of.any k zone kind nm (⟨#[]⟩ : ByteArray) 0 cnt W HC.out (by rw [show lenT cnt (⟨#[]⟩ : ByteArray) 0 = cnt from if_pos rfl]; exact h0) (by rw [show lenT cnt (⟨#[]⟩ : ByteArray) 0 = cnt from if_pos rfl]; exact h1))
  rw [show lenT cnt (⟨#[]⟩ : ByteArray) 0 = cnt from if_pos rfl] at HO
  unfold cx at HO
  by_cases hk : 0 ≤ kind ∧ kind < 7
  · have er : rankI kind cnt = 256 * kind + 255 - cnt := if_pos hk
    rw [er] at HO
    obtain ⟨k0, k1⟩ := hk
    have e2 := fl_lt (256 * kind + 255 - cnt) 1792 (by omega) (by decide)
    rw [decide_eq_true (by omega), show fl 1792 = 4655596114794250240 from f1792] at e2
    clear er
    go_enter Try.func3, Try.ntmps3
    go_wp2_with (first
      | (go_at_call 7; refine (awake18.any _).mono ?_; rintro e w1 ⟨rfl, hb⟩; have D1 := Lib.hid hb; clear hb)
      | (go_at_call 8; refine (bolterlaw13_Trigger.calls k 1 A c ns false 0 1 nm (⟨#[]⟩ : ByteArray) 0 _ (Kd.C_below HR.out D1.out) hcap HT.out).mono ?_; rintro e w2 ⟨rfl, hb⟩; have D2 := Lib.hid (below_step D1.out hb); clear hb)
      | (go_at_call 9; refine (HO _).out.mono ?_; rintro e w3 ⟨rfl, hb⟩; have D3 := Lib.hid (below_step (below_alloc D2.out _) hb); clear hb))
    go_ret
    exact ⟨rfl, D3.out⟩
  · have er : rankI kind cnt = 1792 := if_neg hk
    rw [er, f1792] at HO
    clear er
    by_cases k0 : 0 ≤ kind
    · have k1 : ¬ kind < 7 := fun h => hk ⟨k0, h⟩
      clear hk
      go_enter Try.func3, Try.ntmps3
      go_wp2_with (first
        | (go_at_call 7; refine (awake18.any _).mono ?_; rintro e w1 ⟨rfl, hb⟩; have D1 := Lib.hid hb; clear hb)
        | (go_at_call 8; refine (bolterlaw13_Trigger.calls k 1 A c ns false 0 1 nm (⟨#[]⟩ : ByteArray) 0 _ (Kd.C_below HR.out D1.out) hcap HT.out).mono ?_; rintro e w2 ⟨rfl, hb⟩; have D2 := Lib.hid (below_step D1.out hb); clear hb)
        | (go_at_call 9; refine (HO _).out.mono ?_; rintro e w3 ⟨rfl, hb⟩; have D3 := Lib.hid (below_step (below_alloc D2.out _) hb); clear hb))
      go_ret
      exact ⟨rfl, D3.out⟩
    · clear hk
      go_enter Try.func3, Try.ntmps3
      go_wp2_with (first
        | (go_at_call 7; refine (awake18.any _).mono ?_; rintro e w1 ⟨rfl, hb⟩; have D1 := Lib.hid hb; clear hb)
        | (go_at_call 8; refine (bolterlaw13_Trigger.calls k 1 A c ns false 0 1 nm (⟨#[]⟩ : ByteArray) 0 _ (Kd.C_below HR.out D1.out) hcap HT.out).mono ?_; rintro e w2 ⟨rfl, hb⟩; have D2 := Lib.hid (below_step D1.out hb); clear hb)
        | (go_at_call 9; refine (HO _).out.mono ?_; rintro e w3 ⟨rfl, hb⟩; have D3 := Lib.hid (below_step (below_alloc D2.out _) hb); clear hb))
      go_ret
      exact ⟨rfl, D3.out⟩
end Go.Proofs.Ytiaageolmkplbaa.Hand
