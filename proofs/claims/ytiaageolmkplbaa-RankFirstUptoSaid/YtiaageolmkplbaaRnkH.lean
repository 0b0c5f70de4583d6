/- RankFirst walked: for every list of at most 1048576 bytes. -/
import Derived.Test.YtiaageolmkplbaaRnkD
set_option linter.unusedVariables false
namespace Go.Proofs.Ytiaageolmkplbaa.Hand
open Go.RowKit Go.Proofs.YtiaageolmkplbaaW.PrintWords Go.Proofs.YtiaageolmkplbaaW.PrintLast Go.Proofs.Ytiaageolmkplbaa.PBase0 Go.Proofs.Ytiaageolmkplbaa.Flt
theorem better_val {a b c d : Int} {v : Bool} (ha : Sm a) (hb : Sm b) (hc : Sm c) (hd : Sm d) (h : betterB a b c d = v) (W : World) : Hid (Calls Try.prog 15 #[cx a b, cx c d] W fun e w' => e = .returned (.bool v) ∧ w' = W) := by
  subst h
  exact Lib.hid (rank_Better.any a b c d ha hb hc hd W)
def rk (n : Int) : Int × Int := (n / 64, n % 8)
theorem rk_sm {n : Int} (h0 : 0 ≤ n) (h1 : n ≤ 255) : SmP (rk n) := by
  constructor
  · show (n / 64).natAbs < _; omega
  · show (n % 8).natAbs < _; omega
theorem info32 : (Try.prog.info? 32).map (fun i => (i.zero, i.size, i.bytes)) = some (some (.complex .f64 0 0), 1, 16) := by kernel_rfl
theorem at_rk (ns : List Int) (i : Nat) (h : i < ns.length) : at_ (ns.map rk) i = rk ns[i] := by
  simp [rdOf, List.getD_eq_getElem?_getD, h]
set_option maxHeartbeats 4000000 in
set_option maxRecDepth 100000 in
theorem rankFirst_any (A : Option Addr) (c : Nat) (ns : List Int) (w : World) (hr0 : Kd.C (Kd.int .u8) w A ns.length ns) (hlen : ns.length ≤ 1048576) (hx : ∀ x ∈ ns, 0 ≤ x ∧ x ≤ 255) :
    Calls Try.prog 5 #[.slice A ns.length c] w fun e w' => e = .returned (.bool true) ∧ Below w.heap.size w w' := by
  have HR := Lib.hid hr0
  have HX := Lib.hid hx
  clear hr0 hx
  go_enter Try.func5, Try.ntmps5
  go_wp2_with (go_at_call 7; refine (awake18.any _).mono ?_; rintro e w1 ⟨rfl, hb⟩; have HB := Lib.hid hb; clear hb)
  have D0 : Hid (Kd.R kC 32 w1 w.heap.size (fun _ => True) (.slice none 0 0) ((ns.take 0).map rk)) := Lib.hid (Kd.R_nil _ _ _ _ _)
  go_loopw [3, 13] (fun v3 v13 wr => ∃ j : Nat, v13 = .int .i64 (j : Int) ∧ j ≤ ns.length ∧ Hid (Kd.R kC 32 wr w.heap.size (fun _ => True) v3 ((ns.take j).map rk)) ∧ Hid (Below w.heap.size w wr)) (fun _ v _ => (ns.length - (intOf v).toNat))
  case atStart => exact ⟨0, rfl, Nat.zero_le _, D0, HB⟩
  case round =>
    obtain ⟨j, rfl, j1, HL, HD⟩ := hrel
    clear D0 HB
    by_cases hlt : j < ns.length
    · have hlt' : (j : Int) < (ns.length : Int) := by omega
      obtain ⟨ad, rfl, hcell⟩ := Kd.at_int (Kd.C_below HR.out HD.out) (j : Int) (by omega) hlt'
      have er : rd ns (j : Int) = ns[j] := by simp [rd, List.getD, hlt]
      rw [er, Int.toNat_natCast] at hcell
      have ⟨x0, x1⟩ := HX.out ns[j] (List.getElem_mem hlt)
      have HF := Lib.hid (show (ns.take (j + 1)).map rk = (ns.take j).map rk ++ [rk ns[j]] by rw [List.take_succ_eq_append_getElem hlt, List.map_append]; rfl)
      have HLim : Hid ((((ns.take j).map rk).length + 1) * 16 ≤ 140737488355328) := Lib.hid (by rw [List.length_map, List.length_take]; omega)
      clear er
      generalize ns[j] = n at hcell x0 x1 HF
      go_wp2_with (first | (at_builtin; refine Kd.R_append kC (w0 := w) w.heap.size rfl (.tmp 17) (.tmp 25) 40 32 (.complex .f64 0 0) 16 rfl Try.underlying40 info32 rfl (by decide) (by omega) u3 ((ns.take j).map rk) (rk n) [cx (n / 64) (n % 8)] (fun _ => True) (fun _ => False) rfl rfl ?aP (fun _ hk => hk.elim) ?aF ?aO ?aB ?aS ?aL ?_; (case aP => exact rfl); (case aB => exact HD.out); (case aF => exact (fun _ _ => trivial)); (case aO => exact HL.out); (case aS => exact below_size HD.out); (case aL => exact HLim.out); intro v2 w2 hR2 hB2 hg2 hat2; have HLn := Lib.hid hR2; have HDn := Lib.hid hB2; clear hR2 hB2 hg2 hat2))
      refine ⟨⟨j + 1, rfl, by omega, by rw [HF.out]; exact HLn, HDn⟩, by simp [intOf]; omega⟩
    · obtain rfl : j = ns.length := by omega
      rw [List.take_of_length_le (Nat.le_refl _)] at HL
      have hHL := Kd.R_reads HL.out
      clear HL
      obtain ⟨A3, c3, rfl, hc3, hC3⟩ := hHL
      have HC3 := Lib.hid hC3
      have HXs : Hid (∀ i : Nat, i < (ns.map rk).length → SmP (at_ (ns.map rk) i)) := Lib.hid (fun i hi => by
        have hi' : i < ns.length := by rwa [List.length_map] at hi
        rw [at_rk ns i hi']
        exact rk_sm (HX.out _ (List.getElem_mem hi')).1 (HX.out _ (List.getElem_mem hi')).2)
      clear hC3 j1 hlt
      have hlr : (ns.map rk).length = ns.length := List.length_map ..
      have hlr2 : (ns.map rk).length ≤ 1048576 := by omega
      have HFst := fun W hC => Lib.hid (rank_First.any A3 c3 (ns.map rk) W hC (by omega) HXs.out)
      have hrng := bestTo_range (ns.map rk) (ns.map rk).length
      have hfst := bestTo_first (ns.map rk) (ns.map rk).length
      clear HX HR hlr
      generalize hrs : ns.map rk = rs at *
      clear hrs
      by_cases h0 : rs.length = 0
      · have hb := hrng.1 h0
        rw [hb] at HFst
        have b0 : ((rs.length : Int) == 0) = true := by rw [beq_iff_eq]; omega
        have HF2 := HFst wr HC3.out
        clear hrng hfst HFst hb h0
        go_wp2_with (go_at_call 14; refine HF2.out.mono ?_; rintro e w5 ⟨rfl, rfl⟩)
        go_ret
        exact ⟨rfl, HD.out⟩
      · have hb := hrng.2 (by omega)
        have HFi := Lib.hid (hfst (by omega))
        have b0 : ((rs.length : Int) == 0) = false := by rw [beq_eq_false_iff_ne]; omega
        have HF2 := HFst wr HC3.out
        clear hrng hfst HFst
        obtain ⟨k0, k1⟩ := hb
        generalize hB : bestTo rs rs.length = best at HF2 HFi k0 k1
        clear hB
        have nb : ¬ best < 0 := by omega
        have ng : ¬ (rs.length : Int) ≤ best := by omega
        go_wp2_with (go_at_call 14; refine HF2.out.mono ?_; rintro e w5 ⟨rfl, rfl⟩)
        clear HF2
        go_loopw [45] (fun v45 wr => ∃ i : Nat, v45 = .int .i64 (i : Int) ∧ i ≤ rs.length ∧ wr = w5) (fun v _ => (rs.length - (intOf v).toNat))
        case atStart => exact ⟨0, rfl, Nat.zero_le _, rfl⟩
        case round =>
          obtain ⟨i, rfl, i1, rfl⟩ := hrel
          by_cases hi : i < rs.length
          · have hi' : (i : Int) < (rs.length : Int) := by omega
            obtain ⟨ad, rfl, hcell⟩ := at_cx HC3.out i hi
            obtain ⟨ad2, e2, hcell2⟩ := at_cx HC3.out best.toNat (by omega)
            cases e2
            have eb : (best.toNat : Int) = best := Int.toNat_of_nonneg k0
            rw [eb] at hcell2
            have si := HXs.out i hi
            have sb := HXs.out best.toNat (by omega)
            rw [eb] at sb
            have VA := fun W => better_val (v := false) si.1 si.2 sb.1 sb.2 (Bool.eq_false_iff.2 (HFi.out.1 i hi)) W
            by_cases hik : (i : Int) < best
            · have VB := fun W => better_val (v := true) sb.1 sb.2 si.1 si.2 (HFi.out.2 i hik) W
              clear si sb eb
              go_wp2_with (first | (go_at_call 15; (with_reducible refine (VA _).out.mono ?_); rintro e wx ⟨rfl, rfl⟩) | (go_at_call 15; (with_reducible refine (VB _).out.mono ?_); rintro e wx ⟨rfl, rfl⟩))
              refine ⟨⟨i + 1, rfl, by omega, trivial⟩, by simp [intOf]; omega⟩
            · clear si sb eb
              go_wp2_with (go_at_call 15; (with_reducible refine (VA _).out.mono ?_); rintro e wx ⟨rfl, rfl⟩)
              refine ⟨⟨i + 1, rfl, by omega, trivial⟩, by simp [intOf]; omega⟩
          · obtain rfl : i = rs.length := by omega
            go_wp2
            go_ret
            exact ⟨rfl, HD.out⟩
end Go.Proofs.Ytiaageolmkplbaa.Hand
