/- A prefix's signs are its bits, and it is found by them: for addresses made by every list of numbers. -/
import Derived.Test.YtbnmpopcnpjjdaaPPrex21
import Derived.Test.YtbnmpopcnpjjdaaPreB
import Derived.Test.YtbnmpopcnpjjdaaWSized
namespace Go.Proofs.Ytbnmpopcnpjjdaa.Pure
open Go.RowKit Go.Proofs.Ytbnmpopcnpjjdaa.PPre Go.Proofs.Ytbnmpopcnpjjdaa.PBase0 Go.Proofs.Ytbnmpopcnpjjdaa.Hand Go.Proofs.Ytbnmpopcnpjjdaa.PreL Go.Proofs.YtbnmpopcnpjjdaaW.PrintWords Go.Proofs.YtbnmpopcnpjjdaaW.PrintLast

theorem key_join (k : Nat) (six : Bool) (ns : List Int) (a2 : Int) (a : ByteArray) (n : Nat) (r : ByteArray)
    (h1 : bolterlaw12_Addr.f k six ns = some a) (e8 : wrap64 (wrap64 (8 * (a.size : Int)) + 1) = 8 * (a.size : Int) + 1)
    (hn : Int.tmod (wrap64 a2) (8 * (a.size : Int) + 1) = n) (hlt : n ≤ 8 * a.size) (hcut : prefix_Cut.f a n = some (cutS a n, (n : Int), true))
    (hkey : prefix_Key.f (cutS a n) n = some (sgn (cutS a n) n)) (hb : prefix_Back.f k (sgn (cutS a n) n) (a.size : Int) = some (r, (n : Int), true)) (er : r = cutS a n)
    (h3 : bolterlaw12_bits.f k a = some (sgn a (8 * a.size))) (ht : (sgn (cutS a n) n).toList = (sgn a n).toList) : bolterlaw12_PrefixKey.f k six ns a2 = some true := by
  unfold bolterlaw12_PrefixKey.f
  rw [awake_eq, Option.bind_some, if_pos rfl, h1, Option.bind_some, e8, if_neg (by omega), hn, hcut, Option.bind_some]
  dsimp only
  rw [hkey, Option.bind_some, hb, Option.bind_some, h3, Option.bind_some]
  rw [if_pos (by omega), if_pos (by rw [sgn_size]; omega), Int.toNat_natCast, sgn_take a n (8 * a.size) hlt, if_pos ht, if_pos rfl, er, beq_self_eq_true, beq_self_eq_true]
  rfl
theorem PrefixKey : bolterlaw12_PrefixKey.Pure := by
  intro six ns a2 hm hl hx h2
  obtain ⟨a, ⟨K1, h1⟩, hs⟩ := addr_ev six ns hl hx
  have ⟨hg, h16⟩ := addr_good hs
  have ⟨n0, n1⟩ := u8b h2
  have e8 : wrap64 (wrap64 (8 * (a.size : Int)) + 1) = 8 * (a.size : Int) + 1 := by rw [w64 (n := 8 * (a.size : Int)) (by omega) (by omega), w64 (by omega) (by omega)]
  obtain ⟨n, hn⟩ : ∃ n : Nat, Int.tmod (wrap64 a2) (8 * (a.size : Int) + 1) = n := by
    have := Int.tmod_nonneg (8 * (a.size : Int) + 1) (show 0 ≤ wrap64 a2 by rw [w64 n0 (by omega)]; exact n0)
    exact ⟨_, (Int.toNat_of_nonneg this).symm⟩
  have hlt : n ≤ 8 * a.size := by
    have := Int.tmod_lt_of_pos (wrap64 a2) (show 0 < 8 * (a.size : Int) + 1 by omega)
    omega
  have hcut : prefix_Cut.f a n = some (cutS a n, (n : Int), true) := by rw [cut_eq, if_pos ⟨hg, by omega, by omega⟩]
  have hcg : IsAdr (cutS a n) := by unfold IsAdr; rw [cutS_size]; exact hg
  have hkey : prefix_Key.f (cutS a n) n = some (sgn (cutS a n) n) := by
    rw [key_eq, if_pos ⟨hcg, by omega, by rw [cutS_size]; omega, cutS_idem a n hlt⟩, Int.toNat_natCast]
  have hsz := sgn_size (cutS a n) n
  obtain ⟨r, ⟨K2, hb⟩, hr, hbit⟩ := back_ev_yes (sgn (cutS a n) n) (a.size : Int) (by unfold IsAdr at hg; omega) (by rw [hsz]; omega)
    (fun m hm => by
      rw [hsz] at hm
      have := prefix_Key.bit_01 (cutS a n) m
      rw [bt_sgn _ _ _ hm]; omega)
  have er : r = cutS a n := by
    refine bits_ext _ _ (by rw [cutS_size]; omega) fun i hi => ?_
    rw [hbit i (by omega), hsz, cutS_bit a n hlt i (by omega)]
    split
    · rename_i h
      rw [bt_sgn _ _ _ h, cutS_bit a n hlt i (by omega), if_pos h]; omega
    · rfl
  obtain ⟨K3, h3⟩ := bits_ev a h16
  dsimp only at h1 hb h3
  exact ⟨K1 + K2 + K3, key_join _ six ns a2 a n r (h1 _ (by omega)) e8 hn hlt hcut hkey (by rw [hb _ (by omega), hsz]) er (h3 _ (by omega)) ((sgn_eq _ _ _).2 fun i hi => by rw [cutS_bit a n hlt i (by omega), if_pos hi])⟩

end Go.Proofs.Ytbnmpopcnpjjdaa.Pure
namespace Go.Proofs.Ytbnmpopcnpjjdaa.PrintWords
open Go.ChangeShapes Go.WideShapes
/-- The row speaks of this word by a short name. -/
theorem sized_ints {H : Type} {enc : TypeId × Value → H} {P : Program} {W : World} {base : Nat} {spare : Nat → Bool} {held : Bool} {t e : TypeId} {k : IntKind} {a : Option Addr} {len cap : Nat} {d : DataW H} {ps : List MemPlace} {ts : List TypeId} {ds : List (DataW H)} {j : Nat}
    (hsz : (DataW.weightsEach P ts ds).all (· ≤ reachBytes) = true) (ht : ts[j]? = some t) (hd : ds[j]? = some d) (hu : P.underlying t = some (.slice e)) (he : P.underlying e = some (.int k)) (hc : P.cellsOf e = 1) {B : Nat} (hB : P.bytesOf e = B)
    (h : DataW.Trod enc P W base spare held t (.slice a len cap) d ps) : len * B ≤ 140737488351232 :=
  Go.Proofs.YtbnmpopcnpjjdaaW.PrintWords.sized_ints hsz ht hd hu he hc hB h
end Go.Proofs.Ytbnmpopcnpjjdaa.PrintWords
