/- An address begins with a prefix just if its first bits are that one's: for addresses made by all lists of numbers. -/
import Derived.Test.YtbnmpopcnpjjdaaPPrex16
import Derived.Test.YtbnmpopcnpjjdaaPreL
import Derived.Test.YtbnmpopcnpjjdaaWSized
namespace Go.Proofs.Ytbnmpopcnpjjdaa.Pure
open Go.RowKit Go.Proofs.Ytbnmpopcnpjjdaa.PPre Go.Proofs.Ytbnmpopcnpjjdaa.PBase0 Go.Proofs.Ytbnmpopcnpjjdaa.Hand Go.Proofs.Ytbnmpopcnpjjdaa.PreL Go.Proofs.YtbnmpopcnpjjdaaW.PrintWords Go.Proofs.YtbnmpopcnpjjdaaW.PrintLast

theorem has_tail (k : Nat) (a b : ByteArray) (n : Nat) (hg : IsAdr a) (h16 : a.size ≤ 16) (hlt : n ≤ 8 * a.size)
    (h3 : bolterlaw12_bits.f k a = some (sgn a (8 * a.size))) (h4 : bolterlaw12_bits.f k b = some (sgn b (8 * b.size))) :
    bolterlaw12_PrefixHas.j0 (k + 1) a b n false (cutS a n) n = some true := by
  have hx : prefix_Has.f (cutS a n) n (a ++ (⟨#[120]⟩ : ByteArray)) = some false := by
    rw [has_cut a _ n hg hlt]
    congr 1
    rw [decide_eq_false_iff_not]
    intro h
    have : (a ++ (⟨#[120]⟩ : ByteArray)).size = a.size + 1 := by rw [ByteArray.size_append]; rfl
    omega
  simp only [bolterlaw12_PrefixHas.j0]
  rw [if_neg (by decide)]
  by_cases e : (a.size : Int) = (b.size : Int)
  · have hs : a.size = b.size := by omega
    have hmn : mn (n : Int) (wrap64 (8 * (b.size : Int))) = n := by
      rw [w64 (n := 8 * (b.size : Int)) (by omega) (by omega)]; unfold mn; rw [if_neg (by omega)]
    rw [if_pos e, h3, Option.bind_some, if_pos (by omega), if_pos (by rw [sgn_size]; omega), h4, Option.bind_some, hmn, if_pos (by omega), if_pos (by rw [sgn_size]; omega)]
    rw [has_cut a b n hg hlt, Option.bind_some, Int.toNat_natCast, sgn_take a n _ hlt, sgn_take b n _ (by omega)]
    have hd : decide (a.size = b.size ∧ ∀ i, i < n → prefix_Key.bit a i = prefix_Key.bit b i) = ((sgn a n).toList == (sgn b n).toList) := by
      rw [Bool.eq_iff_iff, decide_eq_true_iff, beq_iff_eq, sgn_eq]
      exact ⟨fun h => h.2, fun h => ⟨hs, h⟩⟩
    rw [hd, beq_self_eq_true, if_pos rfl, if_pos (by omega), hx, Option.bind_some]
    rfl
  · have hn : prefix_Has.f (cutS a n) n b = some false := by
      rw [has_cut a b n hg hlt]; congr 1; rw [decide_eq_false_iff_not]; intro h; omega
    rw [if_neg e, hn, Option.bind_some, beq_self_eq_true, if_pos rfl, if_pos (by omega), hx, Option.bind_some]
    rfl
theorem PrefixHas : bolterlaw12_PrefixHas.Pure := by
  intro six ns a2 ms other hm1 hl1 hx1 h2 hm2 hl2 hx2
  obtain ⟨a, ⟨K1, h1⟩, hs1⟩ := addr_ev six ns hl1 hx1
  obtain ⟨b, ⟨K2, hb2⟩, hs2⟩ := addr_ev (six != other) ms hl2 hx2
  have ⟨hg, h16⟩ := addr_good hs1
  have ⟨hgb, hb16⟩ := addr_good hs2
  have ⟨n0, n1⟩ := u8b h2
  have e8 : wrap64 (wrap64 (8 * (a.size : Int)) + 1) = 8 * (a.size : Int) + 1 := by rw [w64 (n := 8 * (a.size : Int)) (by omega) (by omega), w64 (by omega) (by omega)]
  obtain ⟨n, hn⟩ : ∃ n : Nat, Int.tmod (wrap64 a2) (8 * (a.size : Int) + 1) = n := by
    have := Int.tmod_nonneg (8 * (a.size : Int) + 1) (show 0 ≤ wrap64 a2 by rw [w64 n0 (by omega)]; exact n0)
    exact ⟨_, (Int.toNat_of_nonneg this).symm⟩
  have hlt : n ≤ 8 * a.size := by
    have := Int.tmod_lt_of_pos (wrap64 a2) (show 0 < 8 * (a.size : Int) + 1 by omega)
    omega
  have hcut : prefix_Cut.f a n = some (cutS a n, (n : Int), true) := by rw [cut_eq, if_pos ⟨hg, by omega, by omega⟩]
  have hown : prefix_Has.f (cutS a n) n a = some true := by
    rw [has_cut a a n hg hlt]; congr 1; rw [decide_eq_true_eq]; exact ⟨rfl, fun _ _ => rfl⟩
  obtain ⟨K3, h3⟩ := bits_ev a h16
  obtain ⟨K4, h4⟩ := bits_ev b hb16
  dsimp only at h1 hb2 h3 h4
  refine ⟨K1 + K2 + K3 + K4 + 1, ?_⟩
  have ht := has_tail (K1 + K2 + K3 + K4) a b n hg h16 hlt (h3 _ (by omega)) (h4 _ (by omega))
  unfold bolterlaw12_PrefixHas.f
  rw [awake_eq, Option.bind_some, if_pos rfl, h1 _ (by omega), Option.bind_some, hb2 _ (by omega), Option.bind_some, e8, if_neg (by omega), hn, hcut, Option.bind_some]
  dsimp only
  rw [if_pos rfl, may_cut a n hg hlt, Option.bind_some, if_pos rfl, hown, Option.bind_some]
  exact ht

end Go.Proofs.Ytbnmpopcnpjjdaa.Pure
namespace Go.Proofs.Ytbnmpopcnpjjdaa.PrintWords
open Go.ChangeShapes Go.WideShapes
/-- The row speaks of this word by a short name. -/
theorem sized_ints {H : Type} {enc : TypeId × Value → H} {P : Program} {W : World} {base : Nat} {spare : Nat → Bool} {held : Bool} {t e : TypeId} {k : IntKind} {a : Option Addr} {len cap : Nat} {d : DataW H} {ps : List MemPlace} {ts : List TypeId} {ds : List (DataW H)} {j : Nat}
    (hsz : (DataW.weightsEach P ts ds).all (· ≤ reachBytes) = true) (ht : ts[j]? = some t) (hd : ds[j]? = some d) (hu : P.underlying t = some (.slice e)) (he : P.underlying e = some (.int k)) (hc : P.cellsOf e = 1) {B : Nat} (hB : P.bytesOf e = B)
    (h : DataW.Trod enc P W base spare held t (.slice a len cap) d ps) : len * B ≤ 140737488351232 :=
  Go.Proofs.YtbnmpopcnpjjdaaW.PrintWords.sized_ints hsz ht hd hu he hc hB h
end Go.Proofs.Ytbnmpopcnpjjdaa.PrintWords
