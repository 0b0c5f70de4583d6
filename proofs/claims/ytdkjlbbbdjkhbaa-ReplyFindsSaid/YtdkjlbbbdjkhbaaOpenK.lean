/- By hand: an argument of any kind (structs, slices, slices in structs) opened as a value that is read. -/
import Derived.Test.YtdkjlbbbdjkhbaaWMore
import Derived.ChangeArms
import Derived.SizedLaws
set_option linter.unusedVariables false
namespace Go.Proofs.Ytdkjlbbbdjkhbaa.OpenK
open Go.ChangeShapes Go.WideShapes Go.RowKit Go.Proofs.YtdkjlbbbdjkhbaaW.PrintWords
/-- A reading at type t gives a value of kind d, of which G holds, as long as nothing in it weighs more than memory bears. -/
def Opens {α : Type} (P : Program) (d : Kd α) (G : α → Prop) (t : TypeId) : Prop :=
  d.sz = P.cellsOf t ∧ ∀ (H : Type) (enc : TypeId × Value → H) (w : World) (base : Nat) (spare : Nat → Bool) (held : Bool) (fuel : Nat) (cs : List Value) (x : DataW H × List MemPlace),
    DataW.trod enc P w base spare held fuel t cs = some x → (∀ m ∈ x.1.weights P t, m ≤ reachBytes) → ∃ v, d.K w v cs ∧ G v
theorem Opens.int {P : Program} {t : TypeId} {k : IntKind} {G : Int → Prop} (ht : P.underlying t = some (.int k)) (hc : P.cellsOf t = 1) (hG : ∀ n, (Lit.int k n).wf = true → G n) : Opens P (Kd.int k) G t := by
  refine ⟨hc.symm, fun H enc w base spare held fuel cs x hx hw => ?_⟩
  obtain ⟨n, rfl, rfl, h⟩ := DataW.trod_int ht hx
  exact ⟨n, rfl, hG n h⟩
theorem Opens.bool {P : Program} {t : TypeId} (ht : P.underlying t = some .bool) (hc : P.cellsOf t = 1) : Opens P Kd.bool (fun _ => True) t := by
  refine ⟨hc.symm, fun H enc w base spare held fuel cs x hx hw => ?_⟩
  obtain ⟨n, rfl, rfl⟩ := DataW.trod_bool ht hx
  exact ⟨n, rfl, trivial⟩
theorem Opens.string {P : Program} {t : TypeId} (ht : P.underlying t = some .string) (hc : P.cellsOf t = 1) : Opens P Kd.string (fun s => s.size ≤ reachBytes) t := by
  refine ⟨hc.symm, fun H enc w base spare held fuel cs x hx hw => ?_⟩
  obtain ⟨n, rfl, rfl, h⟩ := DataW.trod_string ht hx
  refine ⟨n, rfl, ?_⟩
  have := hw n.data.toList.length (by simp [DataW.weights])
  rw [Array.length_toList] at this
  exact this
theorem gather {α : Type} (z : α) (Q : Nat → α → Prop) : ∀ n, (∀ i, i < n → ∃ v, Q i v) → ∃ l : List α, l.length = n ∧ ∀ i, i < n → Q i (l.getD i z)
  | 0, _ => ⟨[], rfl, fun i hi => absurd hi (Nat.not_lt_zero i)⟩
  | n + 1, h => by
    obtain ⟨l, hl, hq⟩ := gather z Q n (fun i hi => h i (Nat.lt_succ_of_lt hi))
    obtain ⟨v, hv⟩ := h n (Nat.lt_succ_self n)
    refine ⟨l ++ [v], by simp [hl], fun i hi => ?_⟩
    rcases Nat.lt_or_ge i n with h1 | h1
    · have := hq i h1
      rwa [List.getD_eq_getElem?_getD, List.getElem?_append_left (by omega), ← List.getD_eq_getElem?_getD]
    · have e : i = n := by omega
      subst e
      rw [List.getD_eq_getElem?_getD, List.getElem?_append_right (by omega), hl]
      simpa using hv
theorem add_add (a : Addr) (m j : Nat) : (a.add m).add j = a.add (m + j) := by
  unfold Addr.add
  by_cases hm : m = 0
  · subst hm; simp
  · by_cases hj : j = 0
    · simp [hm, hj]
    · have h : ¬ m + j = 0 := by omega
      simp [hm, hj, Nat.add_assoc]
theorem weightsAll_mem {H : Type} {P : Program} {e : TypeId} : ∀ {l : List (DataW H)} {d : DataW H}, d ∈ l → ∀ m ∈ d.weights P e, m ∈ DataW.weightsAll P e l
  | [], _, h, _, _ => by cases h
  | a :: r, d, h, m, hm => by
    rw [DataW.weightsAll, List.mem_append]
    rcases List.mem_cons.1 h with rfl | h'
    · exact .inl hm
    · exact .inr (weightsAll_mem h' m hm)
theorem Opens.slice {α : Type} {P : Program} {d : Kd α} {G : α → Prop} {t e : TypeId} (h : Opens P d G e) (ht : P.underlying t = some (.slice e)) (hc : P.cellsOf t = 1) (z : α) :
    Opens P (Kd.slice e d) (fun l => l.length * P.bytesOf e ≤ reachBytes ∧ ∀ y ∈ l, G y) t := by
  refine ⟨hc.symm, fun H enc w base spare held fuel cs x hx hw => ?_⟩
  rcases DataW.trod_slice ht hx with ⟨rfl, rfl⟩ | ⟨a, len, cap, elems, rest, n, _, rfl, rfl, hb, hl, hm, hlen, hel, _, _⟩
  · exact ⟨[], ⟨none, 0, rfl, Nat.le_refl _, ⟨rfl, by simp, fun h => absurd h (by simp)⟩⟩, by simp, by simp⟩
  · have each : ∀ i, i < len → ∃ v, (∃ c, c.length = d.sz ∧ d.K w v c ∧ ∀ j u, c[j]? = some u → w.cell? (a.add (i * d.sz + j)) = some u) ∧ G v := by
      intro i hi
      have h1 := hel i hi
      have hi' : i < elems.length := by omega
      rw [List.getElem?_eq_getElem hi', Option.bind_eq_some_iff] at h1
      obtain ⟨cs', hcs, hy⟩ := h1
      obtain ⟨_, hlen', hcell⟩ := World.cells?_some hcs
      obtain ⟨v, hK, hG⟩ := h.2 H enc w base spare held n cs' _ hy (fun m hm' => hw m (by
        rw [DataW.weights, ht]
        refine List.mem_cons_of_mem _ (List.mem_append_left _ (weightsAll_mem (List.mem_map.2 ⟨_, List.getElem_mem hi', rfl⟩) m hm'))))
      refine ⟨v, ⟨cs', d.K_len hK, hK, fun j u hj => ?_⟩, hG⟩
      have hj' : j < cs'.length := (List.getElem?_eq_some_iff.1 hj).1
      have h2 := hcell j (by omega)
      rw [h.1]
      have e1 : (a.add (i * P.cellsOf e)).add j = a.add (i * P.cellsOf e + j) := add_add a _ _
      rw [← e1, h2, hj]
    obtain ⟨l, hll, hq⟩ := gather z _ len each
    refine ⟨l, ⟨some a, cap, by rw [hll], by omega, hll.symm ▸ ⟨hll, by unfold maxLen at hm; omega, fun _ => ⟨a, rfl, fun j p hj => ?_⟩⟩⟩, ?_, ?_⟩
    · obtain ⟨hj1, hj2⟩ := List.getElem?_eq_some_iff.1 hj
      have := (hq j (by omega)).1
      rw [List.getD_eq_getElem?_getD, hj] at this
      exact this
    · have := hw ((elems.length + rest.length) * P.bytesOf e) (by rw [DataW.weights, ht]; simp)
      exact Nat.le_trans (Nat.mul_le_mul_right _ (by omega)) this
    · intro y hy
      obtain ⟨i, hi⟩ := List.getElem?_of_mem hy
      have hi2 := (List.getElem?_eq_some_iff.1 hi).1
      have := (hq i (by omega)).2
      rw [List.getD_eq_getElem?_getD, hi] at this
      exact this
/-- The fields from a place on. -/
def OpensFs {α : Type} (P : Program) (d : Kd α) (G : α → Prop) (fs : List Field) (off : Nat) : Prop :=
  ∀ (H : Type) (enc : TypeId × Value → H) (w : World) (base : Nat) (spare : Nat → Bool) (held : Bool) (n : Nat) (cs : List Value) (xs : List (DataW H × List MemPlace)),
    cs.length = off + d.sz → xs.length = fs.length → (∀ (i : Nat) (f : Field), fs[i]? = some f → DataW.trod enc P w base spare held n f.type ((cs.drop f.offset).take (P.cellsOf f.type)) = xs[i]?) →
    (∀ m ∈ DataW.weightsEach P (fs.map (·.type)) (xs.map (·.1)), m ≤ reachBytes) → ∃ v, d.K w v (cs.drop off) ∧ G v
theorem OpensFs.one {α : Type} {P : Program} {d : Kd α} {G : α → Prop} {f : Field} {off : Nat} (ho : f.offset = off) (h : Opens P d G f.type) : OpensFs P d G [f] off := by
  intro H enc w base spare held n cs xs hl hx hf hw
  match xs, hx with
  | [x], _ =>
    have h1 := hf 0 f rfl
    rw [ho, List.take_of_length_le (by rw [List.length_drop, ← h.1]; omega)] at h1
    refine h.2 H enc w base spare held n _ x h1 (fun m hm => hw m ?_)
    simp only [List.map_cons, List.map_nil, DataW.weightsEach, List.append_nil]
    exact hm
theorem OpensFs.cons {α β : Type} {P : Program} {d1 : Kd α} {d2 : Kd β} {G1 : α → Prop} {G2 : β → Prop} {f : Field} {fs : List Field} {off : Nat} (ho : f.offset = off) (h1 : Opens P d1 G1 f.type) (h2 : OpensFs P d2 G2 fs (off + d1.sz)) :
    OpensFs P (Kd.pair d1 d2) (fun p => G1 p.1 ∧ G2 p.2) (f :: fs) off := by
  intro H enc w base spare held n cs xs hl hx hf hw
  match xs, hx with
  | x :: xs, hx =>
    have hl' : cs.length = off + (d1.sz + d2.sz) := hl
    simp only [List.map_cons, DataW.weightsEach] at hw
    have a1 := hf 0 f rfl
    rw [ho] at a1
    obtain ⟨v1, k1, g1⟩ := h1.2 H enc w base spare held n _ x a1 (fun m hm => hw m (List.mem_append_left _ hm))
    obtain ⟨v2, k2, g2⟩ := h2 H enc w base spare held n cs xs (by omega) (by simpa using hx) (fun i g hg => hf (i + 1) g hg) (fun m hm => hw m (List.mem_append_right _ hm))
    refine ⟨(v1, v2), ⟨(cs.drop off).take (P.cellsOf f.type), cs.drop (off + d1.sz), ?_, k1, k2⟩, g1, g2⟩
    rw [h1.1, ← List.drop_drop, List.take_append_drop]
theorem Opens.struct {α β : Type} {P : Program} {d : Kd α} {G : α → Prop} {t : TypeId} {fs : Array Field} (f : β → α) (g : α → β) (hfg : ∀ y, f (g y) = y) (ht : P.underlying t = some (.struct fs)) (hc : P.cellsOf t = d.sz) (h : OpensFs P d G fs.toList 0) :
    Opens P (Kd.iso d f) (fun s => G (f s)) t := by
  refine ⟨hc.symm, fun H enc w base spare held fuel cs x hx hw => ?_⟩
  obtain ⟨xs, n, _, rfl, hl, hxl, hf⟩ := DataW.trod_struct ht hx
  obtain ⟨v, hK, hG⟩ := h H enc w base spare held n cs xs (by omega) (by rw [hxl, Array.length_toList]) (fun i f' hf' => hf i f' (by simpa using hf')) (fun m hm => hw m (by rw [DataW.weights, ht]; exact hm))
  exact ⟨g v, by show d.K w (f (g v)) cs; rw [hfg]; exact hK, by show G (f (g v)); rw [hfg]; exact hG⟩
/-- An argument. -/
theorem Opens.arg {α : Type} {P : Program} {d : Kd α} {G : α → Prop} {t : TypeId} (h : Opens P d G t) {H : Type} {enc : TypeId × Value → H} {W : World} {base : Nat} {spare : Nat → Bool} {held : Bool} {v : Value} {y : DataW H} {p : List MemPlace}
    {ts : List TypeId} {ds : List (DataW H)} {j : Nat} (hsz : (DataW.weightsEach P ts ds).all (· ≤ reachBytes) = true) (ht : ts[j]? = some t) (hd : ds[j]? = some y) (hv : DataW.Trod enc P W base spare held t v y p) : ∃ x, d.K W x v.cells.toList ∧ G x := by
  obtain ⟨fuel, hf⟩ := hv
  exact h.2 H enc W base spare held fuel _ _ hf (fun m hm => by
    have := List.all_eq_true.1 hsz _ (DataW.weights_mem_each ht hd m hm)
    simpa using this)
end Go.Proofs.Ytdkjlbbbdjkhbaa.OpenK
