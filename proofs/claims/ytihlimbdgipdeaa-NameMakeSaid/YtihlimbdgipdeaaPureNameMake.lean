/- NameMake in plain words: what the statement reckons is what name.Make gives; and a list of texts opened. -/
import Derived.Test.YtihlimbdgipdeaaNmkW
import Derived.Test.YtihlimbdgipdeaaNamK
import Derived.Test.YtihlimbdgipdeaaOpenK
set_option linter.unusedVariables false
namespace Go.Proofs.Ytihlimbdgipdeaa.Pure
open Go.RowKit Go.Proofs.Ytihlimbdgipdeaa.PNam Go.Proofs.Ytihlimbdgipdeaa.PBase0 Go.Proofs.Ytihlimbdgipdeaa.Hand Go.Proofs.Ytihlimbdgipdeaa.NamL Go.Proofs.YtihlimbdgipdeaaW.PrintWords Go.Proofs.YtihlimbdgipdeaaW.PrintLast
theorem mkB_foldS (l : ByteArray) : mkB (foldL l) = foldS l := B_inj (by rw [B_mkB, foldS_B]; rfl)
theorem foldL_len (l : ByteArray) : (foldL l).length = l.size := by unfold foldL; rw [List.length_map, B_length]
/-- The statement's loop, from any state. -/
theorem mk_run : ∀ (ls : List ByteArray) (nm : ByteArray),
    ((∀ l ∈ ls, Ok (B l)) → ls.foldl mkStep (true, nm) = (true, mkB (B nm ++ enc (ls.map foldL)))) ∧ (¬ (∀ l ∈ ls, Ok (B l)) → (ls.foldl mkStep (true, nm)).1 = false)
  | [], nm => ⟨fun _ => by simp [enc, mkB_B], fun h => absurd (by simp) h⟩
  | l :: ls, nm => by
    rw [List.foldl_cons]
    have bad : ∀ (ls : List ByteArray) (nm : ByteArray), (ls.foldl mkStep (false, nm)).1 = false := by
      intro ls
      induction ls with
      | nil => intro nm; rfl
      | cons l ls ih =>
        intro nm
        rw [List.foldl_cons, show mkStep (false, nm) l = (false, nm) from if_neg (fun h => by cases h.1)]
        exact ih nm
    by_cases c : Ok (B l)
    · have c' : 0 < l.size ∧ l.size ≤ 63 := by unfold Ok at c; rw [B_length] at c; exact ⟨by omega, c.2⟩
      rw [show mkStep (true, nm) l = (true, (nm ++ (⟨#[UInt8.ofNat l.size]⟩ : ByteArray)) ++ foldS l) from if_pos ⟨rfl, c'.1, c'.2⟩]
      have ih := mk_run ls ((nm ++ (⟨#[UInt8.ofNat l.size]⟩ : ByteArray)) ++ foldS l)
      refine ⟨fun h => ?_, fun h => ih.2 fun k => h fun x hx => ?_⟩
      · rw [ih.1 fun x hx => h x (List.mem_cons_of_mem _ hx), List.map_cons, enc_cons, B_append, B_append, foldS_B]
        have e : B (⟨#[UInt8.ofNat l.size]⟩ : ByteArray) = [UInt8.ofNat l.size] := rfl
        rw [e]
        unfold encL
        rw [foldL_len]
        simp [foldL]
      · rcases List.mem_cons.1 hx with rfl | hx
        · exact c
        · exact k x hx
    · rw [show mkStep (true, nm) l = (false, nm) from if_neg (fun h => c (by unfold Ok; rw [B_length]; exact ⟨h.2.1, h.2.2⟩))]
      exact ⟨fun h => absurd (h l (List.mem_cons_self ..)) c, fun _ => bad ls nm⟩
theorem tail_any (ls : List ByteArray) (hs : ls.length ≤ 140737488351232) : ∃ k, bolterlaw02_awake.f k = some true ∧ Tail k ls := by
  obtain ⟨K, hK⟩ := awake_ev
  obtain ⟨r1, r2⟩ := mk_run ls (⟨#[]⟩ : ByteArray)
  have go := makeGo_eq ls [] (by simp)
  have e0 : B (⟨#[]⟩ : ByteArray) = [] := rfl
  rw [e0, List.nil_append] at r1
  by_cases c : ∀ l ∈ ls, Ok (B l)
  · have r := r1 c
    have hsz : (mkState ls).2.size = (enc (ls.map foldL)).length := by
      unfold mkState
      rw [r, mkB_size]
    by_cases c2 : (enc (ls.map foldL)).length ≤ 254
    · obtain ⟨m1, m2⟩ := make_nm c c2
      obtain ⟨K2, h2⟩ := labels_yes m2
      obtain ⟨K3, h3⟩ := count_yes m2
      obtain ⟨K4, h4⟩ := same_ev (ls.map foldS) (ls.map foldS) (by rw [List.length_map]; exact hs)
      have em : (ls.map foldL).map mkB = ls.map foldS := by rw [List.map_map]; exact List.map_congr_left fun l _ => mkB_foldS l
      have h2' := h2 (K + K2 + K3 + K4) (by omega)
      have h3' := h3 (K + K2 + K3 + K4) (by omega)
      have h4' := h4 (K + K2 + K3 + K4) (by omega)
      rw [em] at h2'
      rw [List.length_map] at h3'
      rw [decide_eq_true rfl] at h4'
      refine ⟨K + K2 + K3 + K4, hK _ (by omega), .inr ?_⟩
      have g := go.1 ⟨c, by simpa using c2⟩
      rw [List.nil_append] at g
      have es : mkState ls = (true, mkB (enc (ls.map foldL))) := r
      rw [es]
      exact ⟨rfl, by rw [mkB_size]; exact c2, g, h2', h4', h3'⟩
    · refine ⟨K, hK K (Nat.le_refl _), .inl ⟨.inr (by omega), go.2 fun h => c2 ?_⟩⟩
      simpa using h.2
  · exact ⟨K, hK K (Nat.le_refl _), .inl ⟨.inl (r2 c), go.2 fun h => c h.1⟩⟩
theorem NameMake (ls : List ByteArray) (h : ls.length * 16 ≤ 140737488351232) : ∃ k, bolterlaw02_awake.f k = some true ∧ Tail k ls := tail_any ls (by omega)
end Go.Proofs.Ytihlimbdgipdeaa.Pure
namespace Go.Proofs.Ytihlimbdgipdeaa.OpenK
open Go.ChangeShapes Go.WideShapes Go.RowKit Go.Proofs.YtihlimbdgipdeaaW.PrintWords
abbrev TextsG (l : List ByteArray) : Prop := l.length * 16 ≤ 140737488351232 ∧ ∀ s ∈ l, s.size ≤ 140737488351232
theorem o9 : Opens Try.prog Kd.string (fun s => s.size ≤ reachBytes) 9 := .string Try.underlying9 (by kernel_rfl)
theorem o28 : Opens Try.prog (Kd.slice 9 Kd.string) TextsG 28 := by
  have h := Opens.slice o9 Try.underlying28 (by kernel_rfl) ByteArray.empty
  rw [show Try.prog.bytesOf 9 = 16 by kernel_rfl] at h
  exact h
theorem slice_arg {P : Program} {α : Type} {d : Kd α} {G : List α → Prop} {t e : TypeId} (ho : Opens P (Kd.slice e d) G t) (hu : P.underlying t = some (.slice e)) {H : Type} {enc : TypeId × Value → H} {W : World} {r : Reach} {base b0 : Nat} {spare : Nat → Bool} {held : Bool} {v : Value} {y : DataW H} {p : List MemPlace} {ts : List TypeId} {ds : List (DataW H)} {j : Nat}
    (hsz : (DataW.weightsEach P ts ds).all (· ≤ reachBytes) = true) (ht : ts[j]? = some t) (hd : ds[j]? = some y) (hk : Value.okWide P W r b0 t v) (hv : DataW.Trod enc P W base spare held t v y p) :
    ∃ (A : Option Addr) (c : Nat) (l : List α), v = .slice A l.length c ∧ Kd.C d W A l.length l ∧ l.length ≤ c ∧ G l := by
  obtain ⟨a0, len, cap, rfl⟩ := okWide_slice hu hk
  obtain ⟨l, hK, g⟩ := ho.arg hsz ht hd hv
  obtain ⟨A, c, he, hl, hC⟩ := hK
  have he' : [Value.slice a0 len cap] = [Value.slice A l.length c] := he
  exact ⟨A, c, l, List.head_eq_of_cons_eq he', hC, hl, g⟩
end Go.Proofs.Ytihlimbdgipdeaa.OpenK
