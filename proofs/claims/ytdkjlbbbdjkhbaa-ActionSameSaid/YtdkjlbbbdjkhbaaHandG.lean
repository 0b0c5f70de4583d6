/- The contract of action.target: for every name. -/
import Derived.Test.YtdkjlbbbdjkhbaaHandM
import Derived.Test.YtdkjlbbbdjkhbaaPAllx0
import Derived.Maps.RangeRun
import Derived.Maps.Range
import Derived.Carry
set_option linter.unusedVariables false
namespace Go.Proofs.Ytdkjlbbbdjkhbaa.Hand
open Go.RowKit Go.Proofs.YtdkjlbbbdjkhbaaW.PrintWords Go.Proofs.YtdkjlbbbdjkhbaaW.PrintLast Go.Proofs.Ytdkjlbbbdjkhbaa.PAll
open Go.ChangeMaps (setBlock)

/-! ### a map whose block is told entry by entry -/
theorem run_insert {P : Program} {w : World} {t k e : TypeId} {b : Nat} {es : Array MapEntry} {clock : Nat} {n : Int} {v : Value} (hu : P.underlying t = some (.map k e)) (hk : P.underlying k = some (.int .i64)) (hb : w.heap[b]? = some (.map es clock))
    (hf : Instr.findNow (.int .i64) (.int .i64 n) es.toList 0 = some none) :
    (Instr.mapUpdate t (.map (some b)) (.int .i64 n) v).run P w = .ok () (setBlock w b (.map (es.push ⟨.int .i64 n, v, clock⟩) (clock + 1))) := by
  have h1 : (Instr.checkKey false (9999 + 1) k (.int .i64 n)).run P w = .ok () w := MapKept.run_checkKey hk (by simp [MapKept.IsKey]) false 9999
  have h2 := MapKept.run_findKey (w := w) hk hf
  simp only [Instr.mapUpdate, Sem.run_bind, run_underlying hu, Result.andThen, MapKept.run_getObj_map hb, h1, h2]
  simp [setObj, Sem.run, hb, setBlock]
theorem set_same {w : World} {b : Nat} {o o' : Obj} (hb : w.heap[b]? = some o) : (setBlock w b o').heap[b]? = some o' := (MapKept.heap_set hb).1
theorem set_other {w : World} {b : Nat} {o o' : Obj} (hb : w.heap[b]? = some o) {g : Nat} (hg : g ≠ b) : (setBlock w b o').heap[g]? = w.heap[g]? := (MapKept.heap_set hb).2 g hg
theorem set_size (w : World) (b : Nat) (o : Obj) : (setBlock w b o).heap.size = w.heap.size := by simp [setBlock]
/-- A block that is new since the start is written. -/
theorem set_below {w0 w : World} {m b : Nat} (h : Below m w0 w) (hb : m ≤ b) (o : Obj) : Below m w0 (setBlock w b o) := by
  refine ⟨h.os, h.tape, h.output, by rw [set_size]; exact h.size, fun k hk => ?_⟩
  rw [← h.block k hk]
  simp only [setBlock]
  rw [Array.getElem?_setIfInBounds_ne (by omega)]
/-- An entry's row: texts that are read. -/
def Row (W : World) (v : Value) (ls : List ByteArray) : Prop := ∃ (g c : Nat), v = .slice (some ⟨g, 0, none⟩) ls.length c ∧ ls.length ≤ c ∧ g < W.heap.size ∧ ∃ cs, W.heap[g]? = some (.cells cs 9 (0, 0)) ∧ cs.toList = ls.map Value.string
theorem Row.keep {W W' : World} {v : Value} {ls : List ByteArray} (h : Row W v ls) (hs : W.heap.size ≤ W'.heap.size) (hk : ∀ (g : Nat) (cs : Array Value), W.heap[g]? = some (.cells cs 9 (0, 0)) → W'.heap[g]? = some (.cells cs 9 (0, 0))) : Row W' v ls := by
  obtain ⟨g, c, rfl, hc, hg, cs, h1, h2⟩ := h
  exact ⟨g, c, rfl, hc, Nat.lt_of_lt_of_le hg hs, cs, hk g cs h1, h2⟩
theorem Row.reads {W : World} {v : Value} {ls : List ByteArray} (h : Row W v ls) (hl : ls.length ≤ 100) : ∃ A c, v = .slice A ls.length c ∧ Kd.C Kd.string W A ls.length ls := by
  obtain ⟨g, c, rfl, hc, hg, cs, h1, h2⟩ := h
  refine ⟨some ⟨g, 0, none⟩, c, rfl, Kd.C_of_reads (enc := Value.string) (d := ByteArray.empty) ⟨rfl, by omega, fun _ => ⟨_, rfl, fun i hi => ?_⟩⟩⟩
  have e1 : (⟨g, 0, none⟩ : Addr).add i = ⟨g, i, none⟩ := by unfold Addr.add; by_cases h0 : i = 0 <;> simp [h0]
  rw [e1, blk_cell h1 i]
  have e2 : cs[i]? = cs.toList[i]? := by simp
  rw [e2, h2]
  simp [hi]
/-- The entries of a map, in the order in which they were laid. -/
def Ents (W : World) : Nat → List MapEntry → List (Int × List ByteArray) → Prop
  | _, [], [] => True
  | i, e :: es, p :: L => e.key = .int .i64 p.1 ∧ e.born = i ∧ Row W e.val p.2 ∧ Ents W (i + 1) es L
  | _, _, _ => False
theorem Ents.len {W : World} : ∀ {i : Nat} {es : List MapEntry} {L : List (Int × List ByteArray)}, Ents W i es L → es.length = L.length
  | _, [], [], _ => rfl
  | _, _ :: _, _ :: _, h => by simp [Ents.len h.2.2.2]
  | _, [], _ :: _, h => h.elim
  | _, _ :: _, [], h => h.elim
theorem Ents.snoc {W : World} : ∀ {i : Nat} {es : List MapEntry} {L : List (Int × List ByteArray)} {e : MapEntry} {p : Int × List ByteArray}, Ents W i es L → e.key = .int .i64 p.1 → e.born = i + es.length → Row W e.val p.2 → Ents W i (es ++ [e]) (L ++ [p])
  | _, [], [], _, _, _, h1, h2, h3 => ⟨h1, h2, h3, trivial⟩
  | i, _ :: es, _ :: _, _, _, h, h1, h2, h3 => ⟨h.1, h.2.1, h.2.2.1, Ents.snoc h.2.2.2 h1 (by rw [h2, List.length_cons]; omega) h3⟩
  | _, [], _ :: _, _, _, h, _, _, _ => h.elim
  | _, _ :: _, [], _, _, h, _, _, _ => h.elim
theorem Ents.keep {W W' : World} (hs : W.heap.size ≤ W'.heap.size) (hk : ∀ (g : Nat) (cs : Array Value), W.heap[g]? = some (.cells cs 9 (0, 0)) → W'.heap[g]? = some (.cells cs 9 (0, 0))) : ∀ {i : Nat} {es : List MapEntry} {L : List (Int × List ByteArray)}, Ents W i es L → Ents W' i es L
  | _, [], [], _ => trivial
  | _, _ :: _, _ :: _, h => ⟨h.1, h.2.1, h.2.2.1.keep hs hk, Ents.keep hs hk h.2.2.2⟩
  | _, [], _ :: _, h => h.elim
  | _, _ :: _, [], h => h.elim
theorem Ents.find {W : World} {n : Int} : ∀ {i : Nat} {es : List MapEntry} {L : List (Int × List ByteArray)} (j : Nat), Ents W i es L → (∀ p ∈ L, p.1 ≠ n) → Instr.findNow (.int .i64) (.int .i64 n) es j = some none
  | _, [], [], _, _, _ => rfl
  | _, e :: es, p :: L, j, h, hn => by
    have h1 : (n == p.1) = false := by simpa using fun e => hn p (by simp) e.symm
    unfold Instr.findNow
    simp only [h.1, Instr.sameNow, if_true, h1]
    exact Ents.find (j + 1) h.2.2.2 (fun q hq => hn q (by simp [hq]))
  | _, [], _ :: _, _, h, _ => h.elim
  | _, _ :: _, [], _, h, _ => h.elim
theorem Ents.old {W : World} : ∀ {i : Nat} {es : List MapEntry} {L : List (Int × List ByteArray)}, Ents W i es L → ∀ x ∈ es, x.born < i + es.length
  | _, [], [], _, _, hx => by cases hx
  | i, e :: es, p :: L, h, x, hx => by
    rcases List.mem_cons.1 hx with rfl | hx
    · rw [h.2.1, List.length_cons]; omega
    · have := Ents.old h.2.2.2 x hx
      rw [List.length_cons]; omega
  | _, [], _ :: _, h, _, _ => h.elim
  | _, _ :: _, [], h, _, _ => h.elim
theorem Ents.low {W : World} : ∀ {i : Nat} {es : List MapEntry} {L : List (Int × List ByteArray)}, Ents W i es L → ∀ x ∈ es, i ≤ x.born
  | _, [], [], _, _, hx => by cases hx
  | i, e :: es, p :: L, h, x, hx => by
    rcases List.mem_cons.1 hx with rfl | hx
    · rw [h.2.1]; exact Nat.le_refl _
    · exact Nat.le_of_succ_le (Ents.low h.2.2.2 x hx)
  | _, [], _ :: _, h, _, _ => h.elim
  | _, _ :: _, [], h, _, _ => h.elim
theorem Ents.nodup {W : World} : ∀ {i : Nat} {es : List MapEntry} {L : List (Int × List ByteArray)}, Ents W i es L → (es.map (·.born)).Nodup
  | _, [], [], _ => by simp
  | i, e :: es, p :: L, h => by
    rw [List.map_cons, List.nodup_cons]
    refine ⟨fun hm => ?_, Ents.nodup h.2.2.2⟩
    obtain ⟨x, hx, he⟩ := List.mem_map.1 hm
    have := Ents.low h.2.2.2 x hx
    rw [h.2.1] at he
    omega
  | _, [], _ :: _, h => h.elim
  | _, _ :: _, [], h => h.elim
/-- An entry is one of the list's; one of the list's is an entry. -/
theorem Ents.of_mem {W : World} : ∀ {i : Nat} {es : List MapEntry} {L : List (Int × List ByteArray)}, Ents W i es L → ∀ x ∈ es, ∃ p ∈ L, x.key = .int .i64 p.1 ∧ Row W x.val p.2
  | _, [], [], _, _, hx => by cases hx
  | i, e :: es, p :: L, h, x, hx => by
    rcases List.mem_cons.1 hx with rfl | hx
    · exact ⟨p, by simp, h.1, h.2.2.1⟩
    · obtain ⟨q, hq, r⟩ := Ents.of_mem h.2.2.2 x hx
      exact ⟨q, by simp [hq], r⟩
  | _, [], _ :: _, h, _, _ => h.elim
  | _, _ :: _, [], h, _, _ => h.elim
theorem Ents.mem_of {W : World} : ∀ {i : Nat} {es : List MapEntry} {L : List (Int × List ByteArray)}, Ents W i es L → ∀ p ∈ L, ∃ x ∈ es, x.key = .int .i64 p.1
  | _, [], [], _, _, hx => by cases hx
  | i, e :: es, p :: L, h, q, hq => by
    rcases List.mem_cons.1 hq with rfl | hq
    · exact ⟨e, by simp, h.1⟩
    · obtain ⟨x, hx, r⟩ := Ents.mem_of h.2.2.2 q hq
      exact ⟨x, by simp [hx], r⟩
  | _, [], _ :: _, h, _, _ => h.elim
  | _, _ :: _, [], h, _, _ => h.elim
/-- Block m (the first that is new) is a map of these entries. -/
def MapIs (w0 : World) (L : List (Int × List ByteArray)) (W : World) : Prop :=
  ∃ es : List MapEntry, W.heap[w0.heap.size]? = some (.map es.toArray L.length) ∧ Ents W 0 es L ∧ Below w0.heap.size w0 W
theorem MapIs.made (w0 : World) : MapIs w0 [] (w0.alloc (.map #[] 0)) := ⟨[], blk_new _ _, trivial, below_alloc (Below.refl _ _) _⟩
theorem MapIs.lt {w0 W : World} {L : List (Int × List ByteArray)} (h : MapIs w0 L W) : w0.heap.size < W.heap.size := by
  obtain ⟨es, h1, _⟩ := h
  exact blk_lt h1
theorem cells_ne {W : World} {b : Nat} {es : Array MapEntry} {c : Nat} (h : W.heap[b]? = some (.map es c)) {g : Nat} {cs : Array Value} {t : TypeId} {fr : Nat × Nat} (hg : W.heap[g]? = some (.cells cs t fr)) : g ≠ b := by
  rintro rfl
  rw [hg] at h
  injection h with h
  cases h
theorem wpList_word {P : Program} {w0 W : World} {ops : Array Oper} {rest : List Oper} {o : Oper} {a : Act} {Q : Exit → Act → World → Prop} (hg : o.guard = none) (m x v : Operand) (t : TypeId) (hop : o.op = Op.insert t m x v)
    (k e : TypeId) (hu : P.underlying t = some (.map k e)) (hk : P.underlying k = some (.int .i64)) (L : List (Int × List ByteArray)) (n : Int) (ls : List ByteArray) (cs : Array Value) (hM : MapIs w0 L W)
    (hm : a.eval m = .map (some w0.heap.size)) (hx : a.eval x = .int .i64 n) (hv : a.eval v = .slice (some ⟨W.heap.size, 0, none⟩) ls.length ls.length) (hcs : cs.toList = ls.map Value.string) (hn : ∀ p ∈ L, p.1 ≠ n)
    (hK : ∀ W', MapIs w0 (L ++ [(n, ls)]) W' → wpList P ops Q rest (a.put o.dst undef) W') : wpList P ops Q (o :: rest) a (W.alloc (.cells cs 9)) := by
  refine wpList_plain hg fun K' hK' => ?_
  obtain ⟨es, h1, h2, h3⟩ := hM
  have hb := blk_alloc h1 (.cells cs 9)
  have hlen := h2.len
  have hrun := run_insert (P := P) (n := n) (v := .slice (some ⟨W.heap.size, 0, none⟩) ls.length ls.length) hu hk hb (by rw [List.toList_toArray]; exact h2.find 0 hn)
  obtain ⟨W2, hW2⟩ : ∃ W2, setBlock (W.alloc (.cells cs 9)) w0.heap.size (.map (es.toArray.push ⟨.int .i64 n, .slice (some ⟨W.heap.size, 0, none⟩) ls.length ls.length, L.length⟩) (L.length + 1)) = W2 := ⟨_, rfl⟩
  have s1 : W2.heap[w0.heap.size]? = some (.map (es.toArray.push ⟨.int .i64 n, .slice (some ⟨W.heap.size, 0, none⟩) ls.length ls.length, L.length⟩) (L.length + 1)) := by rw [← hW2]; exact set_same hb
  have s2 : ∀ g : Nat, g ≠ w0.heap.size → W2.heap[g]? = (W.alloc (.cells cs 9)).heap[g]? := by intro g hg; rw [← hW2]; exact set_other hb hg
  have s3 : W2.heap.size = W.heap.size + 1 := by rw [← hW2, set_size]; simp
  have s4 : Below w0.heap.size w0 W2 := by rw [← hW2]; exact set_below (below_alloc h3 _) (Nat.le_refl _) _
  rw [hW2] at hrun
  have hnew : (W.alloc (.cells cs 9)).heap[W.heap.size]? = some (.cells cs 9 (0, 0)) := blk_new _ _
  have hk2 : ∀ (g : Nat) (cs' : Array Value), W.heap[g]? = some (.cells cs' 9 (0, 0)) → W2.heap[g]? = some (.cells cs' 9 (0, 0)) := fun g cs' hg => by
    rw [s2 g (cells_ne h1 hg)]
    exact blk_alloc hg _
  have hM2 : MapIs w0 (L ++ [(n, ls)]) W2 := by
    refine ⟨es ++ [⟨.int .i64 n, .slice (some ⟨W.heap.size, 0, none⟩) ls.length ls.length, L.length⟩], ?_, ?_, s4⟩
    · rw [s1]; simp
    · refine (h2.keep (by omega) hk2).snoc (e := ⟨.int .i64 n, .slice (some ⟨W.heap.size, 0, none⟩) ls.length ls.length, L.length⟩) (p := (n, ls)) rfl (by show L.length = 0 + es.length; omega) ⟨W.heap.size, ls.length, rfl, Nat.le_refl _, by omega, cs, ?_, hcs⟩
      rw [s2 _ (cells_ne hb hnew)]
      exact hnew
  unfold Oper.wp
  simp [execOp, hop, hm, hx, hv, hrun, Result.andThen]
  exact hK' _ _ (hK _ hM2)

def star : ByteArray := ⟨#[42]⟩
def wordsL : List (Int × List ByteArray) := [(4, []), (5, [⟨#[42]⟩]), (2, [⟨#[114, 112, 122, 45, 112, 97, 115, 115, 116, 104, 114, 117]⟩]), (3, [⟨#[114, 112, 122, 45, 100, 114, 111, 112]⟩]), (6, [⟨#[114, 112, 122, 45, 116, 99, 112, 45, 111, 110, 108, 121]⟩])]
set_option maxHeartbeats 4000000 in
set_option maxRecDepth 100000 in
theorem words_any (w : World) : Calls Try.prog 48 #[] w fun e w' => e = .returned (.map (some w.heap.size)) ∧ MapIs w wordsL w' := by
  have hmm := fun w => run_makeMap (P := Try.prog) 100 w
  go_enter Try.func48, Try.ntmps48
  have HM : Hid (MapIs w [] (w.alloc (.map #[] 0))) := Lib.hid (MapIs.made w)
  go_wp2_with (first | (refine wpList_word (w0 := w) rfl _ _ _ 100 rfl 24 74 Try.underlying100 Try.underlying24 _ _ [] #[] HM.out rfl rfl (by first | rfl | (simp; done) | (simp; rfl)) rfl (by decide) ?_; intro W1 H1; have HM2 := Lib.hid H1; clear H1 HM; have HM := HM2; clear HM2) | (refine wpList_word (w0 := w) rfl _ _ _ 100 rfl 24 74 Try.underlying100 Try.underlying24 _ _ [_] #[.string _] HM.out rfl rfl (by first | rfl | (simp; done) | (simp; rfl)) rfl (by decide) ?_; intro W1 H1; have HM2 := Lib.hid H1; clear H1 HM; have HM := HM2; clear HM2))
  go_ret
  exact ⟨rfl, HM.out⟩

theorem one_C (W : World) (s : ByteArray) : Kd.C Kd.string (W.alloc (.cells #[.string s] 9)) (some ⟨W.heap.size, 0, none⟩) 1 [s] := by
  refine Kd.C_of_reads (enc := Value.string) (d := ByteArray.empty) ⟨rfl, by decide, fun _ => ⟨_, rfl, fun i hi => ?_⟩⟩
  obtain rfl : i = 0 := by omega
  simp [Addr.add]
theorem found (p : Int × List ByteArray) (hp : p ∈ wordsL) : wordsL.find? (fun q => decide ((makeGo q.2 []).1 = (makeGo p.2 []).1)) = some p := by
  revert p
  decide +kernel
theorem put4 {W : World} {g : Nat} {c0 c1 c2 c3 : Value} (v0 v1 v2 v3 : Value) (h : W.heap[g]? = some (.cells #[c0, c1, c2, c3] 28 (0, 0))) :
    ((((W.setCell ⟨g, 0, none⟩ v0).setCell ⟨g, 1, none⟩ v1).setCell ⟨g, 2, none⟩ v2).setCell ⟨g, 3, none⟩ v3).heap[g]? = some (.cells #[v0, v1, v2, v3] 28 (0, 0)) := by
  have h0 := blk_put h 0 v0 rfl
  have h1 := blk_put h0 1 v1 rfl
  have h2 := blk_put h1 2 v2 rfl
  exact blk_put h2 3 v3 rfl
theorem put4_below {w W : World} (v0 v1 v2 v3 : Value) (h : Below w.heap.size w W) :
    Below w.heap.size w ((((W.setCell ⟨w.heap.size, 0, none⟩ v0).setCell ⟨w.heap.size, 1, none⟩ v1).setCell ⟨w.heap.size, 2, none⟩ v2).setCell ⟨w.heap.size, 3, none⟩ v3) :=
  below_set (below_set (below_set (below_set h (Nat.le_refl _)) (Nat.le_refl _)) (Nat.le_refl _)) (Nat.le_refl _)
theorem tl_inj {s t : ByteArray} (h : s.toList = t.toList) : s = t := by
  rw [Lib.toList_data, Lib.toList_data] at h
  cases s; cases t
  simpa using h
theorem tl_beq (s t : ByteArray) : (s.toList == t.toList) = decide (s = t) := by
  by_cases h : s = t
  · subst h; simp
  · rw [decide_eq_false h, beq_eq_false_iff_ne]
    exact fun e => h (tl_inj e)
theorem keys_one : ∀ p ∈ wordsL, ∀ q ∈ wordsL, p.1 = q.1 → p = q := by decide +kernel
theorem short : ∀ p ∈ wordsL, p.2.length ≤ 100 := by decide +kernel
/-- A name whose labels are one of the words does what that word says; one that begins with a star is rewritten by what is behind it; all others are. -/
def targetGo (n : ByteArray) : Int × ByteArray × Bool × List S43 :=
  match wordsL.find? (fun p => decide ((makeGo p.2 []).1 = n)) with
  | some p => (p.1, ⟨#[]⟩, false, [])
  | none => if 2 < n.size ∧ n.extract 0 2 = (makeGo [star] []).1 then (7, n.extract 2 n.size, true, []) else (7, n, false, [])
def action_target.f (n : ByteArray) : Option (Int × ByteArray × Bool × List S43) := some (targetGo n)

set_option maxHeartbeats 8000000 in
set_option maxRecDepth 100000 in
theorem action_target.calls (a0 : ByteArray) (r1 : Int) (r2 : ByteArray) (r3 : Bool) (r4 : List S43) (w : World) (h : action_target.f a0 = some (r1, r2, r3, r4)) :
    Calls Try.prog 40 #[.string a0] w fun e w' => ∃ v0_ : Value, e = .returned (.agg #[.int .i64 r1, .string r2, .bool r3, v0_]) ∧ Kd.R k43 43 w' w.heap.size (fun _ => True) v0_ r4 ∧ Below w.heap.size w w' := by
  have HT := Lib.hid h
  clear h
  go_enter Try.func40, Try.ntmps40
  have HB : Hid (Below w.heap.size w (w.alloc (.cells #[.int .i64 0, .string ⟨#[]⟩, .bool false, .slice none 0 0] 28))) := Lib.hid (below_alloc (Below.refl _ _) _)
  have BK : Hid ((w.alloc (.cells #[.int .i64 0, .string ⟨#[]⟩, .bool false, .slice none 0 0] 28)).heap[w.heap.size]? = some (.cells #[.int .i64 0, .string ⟨#[]⟩, .bool false, .slice none 0 0] 28 (0, 0))) := Lib.hid (blk_new _ _)
  go_wp2_with (fail)
  generalize (w.alloc (.cells #[.int .i64 0, .string ⟨#[]⟩, .bool false, .slice none 0 0] 28)) = W0 at HB BK ⊢
  have hlt0 : w.heap.size < W0.heap.size := blk_lt BK
  refine (words_any W0).mono ?_
  rintro e w1 ⟨rfl, es, h1, h2, h3⟩
  have h1' : w1.heap[W0.heap.size]? = some (.map es.toArray 5) := h1
  have hlt1 : W0.heap.size < w1.heap.size := blk_lt h1
  have BK1 : Hid (w1.heap[w.heap.size]? = some (.cells #[.int .i64 0, .string ⟨#[]⟩, .bool false, .slice none 0 0] 28 (0, 0))) := Lib.hid (blk_below BK h3)
  have HB1 : Hid (Below w.heap.size w w1) := Lib.hid (below_step HB h3)
  have hrg := run_range_map (P := Try.prog) w1 100 24 74 W0.heap.size es.toArray 5 Try.underlying100 h1'
  have HM := Lib.hid h1'
  have HE := Lib.hid h2
  clear h1 h2 h3 h1' HB BK
  go_wp2_with (fail)
  have ITR : Hid ((w1.alloc (.mapIter (some W0.heap.size) 5 #[] 5)).heap[w1.heap.size]? = some (.mapIter (some W0.heap.size) 5 #[] 5)) := Lib.hid (blk_new _ _)
  have HM1 : Hid ((w1.alloc (.mapIter (some W0.heap.size) 5 #[] 5)).heap[W0.heap.size]? = some (.map es.toArray 5)) := Lib.hid (blk_alloc HM _)
  have BK2 : Hid ((w1.alloc (.mapIter (some W0.heap.size) 5 #[] 5)).heap[w.heap.size]? = some (.cells #[.int .i64 0, .string ⟨#[]⟩, .bool false, .slice none 0 0] 28 (0, 0))) := Lib.hid (blk_alloc BK1 _)
  have HB2 : Hid (Below w.heap.size w (w1.alloc (.mapIter (some W0.heap.size) 5 #[] 5))) := Lib.hid (below_alloc HB1 _)
  have HE2 : Hid (Ents (w1.alloc (.mapIter (some W0.heap.size) 5 #[] 5)) 0 es wordsL) := Lib.hid (HE.keep (by simp) (fun g cs hg => blk_alloc hg _))
  clear hrg HM BK1 HB1 HE
  generalize (w1.alloc (.mapIter (some W0.heap.size) 5 #[] 5)) = W2 at ITR HM1 BK2 HB2 HE2 ⊢
  generalize w1.heap.size = r at ITR hlt1 ⊢
  clear w1
  generalize W0.heap.size = b at *
  go_loopw [3] (fun v wr => ∃ (seen : Array Nat) (c0 : Nat), 5 ≤ c0 ∧ Hid (wr.heap[r]? = some (.mapIter (some b) 5 seen c0)) ∧ Hid (wr.heap[b]? = some (.map es.toArray 5)) ∧ Hid (wr.heap[w.heap.size]? = some (.cells #[.int .i64 0, .string ⟨#[]⟩, .bool false, .slice none 0 0] 28 (0, 0))) ∧ Hid (Below w.heap.size w wr) ∧ Hid (Ents wr 0 es wordsL) ∧ Hid (∀ x ∈ es, seen.contains x.born = true → ∀ p ∈ wordsL, x.key = .int .i64 p.1 → (makeGo p.2 []).1 ≠ a0)) (fun _ wr => wr.rangeLeft b r)
  case atStart => exact ⟨#[], 5, Nat.le_refl _, ITR, HM1, BK2, HB2, HE2, Lib.hid (fun x hx h => by simp at h)⟩
  case round =>
    obtain ⟨seen, c0, hc0, HI, HM2, BK3, HB3, HE3, HS⟩ := hrel
    clear ITR HM1 BK2 HB2 HE2
    clear W2
    have hlen : es.length = 5 := HE3.len
    have hold : ∀ x ∈ es.toArray.toList, x.born < 5 := by
      rw [List.toList_toArray]
      intro x hx
      have := HE3.old x hx
      omega
    rcases run_next_at (P := Try.prog) wr 0 r b 5 c0 seen es.toArray 5 HI HM2 hold hc0 with ⟨h0, hrun⟩ | ⟨e, he, wx, hal, hrun⟩
    · have HN : Hid (∀ p ∈ wordsL, (makeGo p.2 []).1 ≠ a0) := Lib.hid (fun p hp => by
        obtain ⟨x, hx, hk⟩ := HE3.mem_of p hp
        exact HS x hx (all_seen es.toArray seen h0 x (by rw [List.toList_toArray]; exact hx)) p hp hk)
      clear hold
      have HG : Hid (targetGo a0 = if 2 < a0.size ∧ a0.extract 0 2 = (makeGo [star] []).1 then (7, a0.extract 2 a0.size, true, []) else (7, a0, false, [])) := Lib.hid (by
        unfold targetGo
        rw [List.find?_eq_none.2 (fun p hp h => HN p hp (of_decide_eq_true h))])
      have HT2 : Hid (targetGo a0 = (r1, r2, r3, r4)) := Lib.hid (Option.some.inj HT)
      rw [show targetGo a0 = _ from HG] at HT2
      by_cases d2 : 2 < a0.size
      · have d2' : (2 : Int) < (a0.size : Int) := by omega
        by_cases d3 : a0.extract 0 2 = (makeGo [star] []).1
        · rw [if_pos ⟨d2, d3⟩] at HT2
          go_wp2_with (go_at_call 36; refine (make_any _ _ [star] _ (one_C _ _) (by decide)).mono ?_; rintro e w5 ⟨rfl, hb⟩; have HB5 := Lib.hid (below_step (below_alloc HB3 _) hb); have BK5 := Lib.hid (blk_below (blk_alloc BK3 _) hb); clear hb; have q0 : w5.cell? ⟨w.heap.size, 0, none⟩ = some (.int .i64 0) := blk_cell BK5 0; have q1 : w5.cell? ⟨w.heap.size, 1, none⟩ = some (.string ⟨#[]⟩) := blk_cell BK5 1; have q2 : w5.cell? ⟨w.heap.size, 2, none⟩ = some (.bool false) := blk_cell BK5 2; have q3 : w5.cell? ⟨w.heap.size, 3, none⟩ = some (.slice none 0 0) := blk_cell BK5 3; have z0 := blk_frozen BK5 0; have z1 := blk_frozen BK5 1; have z2 := blk_frozen BK5 2; have z3 := blk_frozen BK5 3)
          refine bodyPost_ret (results_cell_row rfl _ _ w.heap.size 28 _ (0, 0) _ rfl (put4 _ _ _ _ BK5) Try.underlying28 rfl (by kernel_rfl)) rfl ?_
          simp only [Hid, Prod.mk.injEq] at HT2
          obtain ⟨rfl, rfl, rfl, rfl⟩ := HT2
          exact ⟨_, rfl, Kd.R_nil _ _ _ _ _, put4_below _ _ _ _ HB5⟩
        · rw [if_neg (fun h => d3 h.2)] at HT2
          have d4 : ((a0.extract 0 2).toList == (makeGo [star] []).1.toList) = false := by rw [tl_beq]; exact decide_eq_false d3
          go_wp2_with (go_at_call 36; refine (make_any _ _ [star] _ (one_C _ _) (by decide)).mono ?_; rintro e w5 ⟨rfl, hb⟩; have HB5 := Lib.hid (below_step (below_alloc HB3 _) hb); have BK5 := Lib.hid (blk_below (blk_alloc BK3 _) hb); clear hb; have q0 : w5.cell? ⟨w.heap.size, 0, none⟩ = some (.int .i64 0) := blk_cell BK5 0; have q1 : w5.cell? ⟨w.heap.size, 1, none⟩ = some (.string ⟨#[]⟩) := blk_cell BK5 1; have q2 : w5.cell? ⟨w.heap.size, 2, none⟩ = some (.bool false) := blk_cell BK5 2; have q3 : w5.cell? ⟨w.heap.size, 3, none⟩ = some (.slice none 0 0) := blk_cell BK5 3; have z0 := blk_frozen BK5 0; have z1 := blk_frozen BK5 1; have z2 := blk_frozen BK5 2; have z3 := blk_frozen BK5 3)
          refine bodyPost_ret (results_cell_row rfl _ _ w.heap.size 28 _ (0, 0) _ rfl (put4 _ _ _ _ BK5) Try.underlying28 rfl (by kernel_rfl)) rfl ?_
          simp only [Hid, Prod.mk.injEq] at HT2
          obtain ⟨rfl, rfl, rfl, rfl⟩ := HT2
          exact ⟨_, rfl, Kd.R_nil _ _ _ _ _, put4_below _ _ _ _ HB5⟩
      · have d2' : ¬ (2 : Int) < (a0.size : Int) := by omega
        rw [if_neg (fun h => d2 h.1)] at HT2
        go_wp2_with (go_at_call 36; refine (make_any _ _ [star] _ (one_C _ _) (by decide)).mono ?_; rintro e w5 ⟨rfl, hb⟩; have HB5 := Lib.hid (below_step (below_alloc HB3 _) hb); have BK5 := Lib.hid (blk_below (blk_alloc BK3 _) hb); clear hb; have q0 : w5.cell? ⟨w.heap.size, 0, none⟩ = some (.int .i64 0) := blk_cell BK5 0; have q1 : w5.cell? ⟨w.heap.size, 1, none⟩ = some (.string ⟨#[]⟩) := blk_cell BK5 1; have q2 : w5.cell? ⟨w.heap.size, 2, none⟩ = some (.bool false) := blk_cell BK5 2; have q3 : w5.cell? ⟨w.heap.size, 3, none⟩ = some (.slice none 0 0) := blk_cell BK5 3; have z0 := blk_frozen BK5 0; have z1 := blk_frozen BK5 1; have z2 := blk_frozen BK5 2; have z3 := blk_frozen BK5 3)
        refine bodyPost_ret (results_cell_row rfl _ _ w.heap.size 28 _ (0, 0) _ rfl (put4 _ _ _ _ BK5) Try.underlying28 rfl (by kernel_rfl)) rfl ?_
        simp only [Hid, Prod.mk.injEq] at HT2
        obtain ⟨rfl, rfl, rfl, rfl⟩ := HT2
        exact ⟨_, rfl, Kd.R_nil _ _ _ _ _, put4_below _ _ _ _ HB5⟩
    · obtain ⟨hem, hes⟩ := mem_left he
      rw [List.toList_toArray] at hem
      obtain ⟨p, hp, hkey, hrow⟩ := HE3.of_mem e hem
      have hI1 : wx.heap[r]? = some (.mapIter (some b) 5 seen c0) := by rcases hal with rfl | rfl <;> exact HI
      have hsx : ∀ g : Nat, wx.heap[g]? = wr.heap[g]? := by rcases hal with rfl | rfl <;> exact fun _ => rfl
      have hzx : wx.heap.size = wr.heap.size := by rcases hal with rfl | rfl <;> rfl
      have hbx : Below w.heap.size w wx := by
        rcases hal with rfl | rfl
        · exact HB3
        · exact below_drew HB3
      obtain ⟨wn, hwn⟩ : ∃ wn, setBlock wx r (.mapIter (some b) 5 (seen.push e.born) 5) = wn := ⟨_, rfl⟩
      rw [hwn] at hrun
      have s1 : wn.heap[r]? = some (.mapIter (some b) 5 (seen.push e.born) 5) := by rw [← hwn]; exact set_same hI1
      have s2 : ∀ g : Nat, g ≠ r → wn.heap[g]? = wr.heap[g]? := by intro g hg; rw [← hwn, set_other hI1 hg]; exact hsx g
      have s3 : wn.heap.size = wr.heap.size := by rw [← hwn, set_size]; exact hzx
      have HB4 : Hid (Below w.heap.size w wn) := Lib.hid (by rw [← hwn]; exact set_below hbx (by omega) _)
      have hrlt : r < wn.heap.size := blk_lt s1
      have HM4 : Hid (wn.heap[b]? = some (.map es.toArray 5)) := Lib.hid (by rw [s2 b (by omega)]; exact HM2)
      have BK4 : Hid (wn.heap[w.heap.size]? = some (.cells #[.int .i64 0, .string ⟨#[]⟩, .bool false, .slice none 0 0] 28 (0, 0))) := Lib.hid (by rw [s2 _ (by omega)]; exact BK3)
      have hk4 : ∀ (g : Nat) (cs : Array Value), wr.heap[g]? = some (.cells cs 9 (0, 0)) → wn.heap[g]? = some (.cells cs 9 (0, 0)) := fun g cs hg => by
        rw [s2 g (by rintro rfl; rw [show wr.heap[g]? = _ from HI] at hg; injection hg with hg; cases hg)]
        exact hg
      have HE4 : Hid (Ents wn 0 es wordsL) := Lib.hid (HE3.keep (by omega) hk4)
      have hrow4 := hrow.keep (Nat.le_of_eq s3.symm) hk4
      have hen := run_entry_at (P := Try.prog) wn r b 5 seen es.toArray 5 e s1 HM4 (by rw [List.toList_toArray]; exact hem) (by rw [List.toList_toArray]; exact HE3.nodup)
      have HI4 := Lib.hid s1
      obtain ⟨A, c, hval, hC⟩ := hrow4.reads (short p hp)
      rw [hkey, hval] at hrun hen
      have HC := Lib.hid hC
      have hl : p.2.length ≤ 140737488351232 := by have := short p hp; omega
      have HP := Lib.hid hp
      have HK := Lib.hid hkey
      have HX := Lib.hid hem
      have HL := Lib.hid he
      clear hC hp hkey hval hem he s1 s2 hk4 hwn hsx hzx hbx hI1 hal hrow hrow4 hold hes BK3 HB3
      clear wx
      by_cases heq : (makeGo p.2 []).1 = a0
      · have HT2 : Hid (targetGo a0 = (r1, r2, r3, r4)) := Lib.hid (Option.some.inj HT)
        rw [show targetGo a0 = (p.1, ⟨#[]⟩, false, []) by unfold targetGo; rw [← heq, found p HP]] at HT2
        go_wp2_with (go_at_call 36; refine (make_any A c p.2 _ HC hl).mono ?_; rintro e w5 ⟨rfl, hb⟩; have HB5 := Lib.hid (below_step HB4 hb); have BK5 := Lib.hid (blk_below BK4 hb); clear hb; have q0 : w5.cell? ⟨w.heap.size, 0, none⟩ = some (.int .i64 0) := blk_cell BK5 0; have q1 : w5.cell? ⟨w.heap.size, 1, none⟩ = some (.string ⟨#[]⟩) := blk_cell BK5 1; have q2 : w5.cell? ⟨w.heap.size, 2, none⟩ = some (.bool false) := blk_cell BK5 2; have q3 : w5.cell? ⟨w.heap.size, 3, none⟩ = some (.slice none 0 0) := blk_cell BK5 3; have z0 := blk_frozen BK5 0; have z1 := blk_frozen BK5 1; have z2 := blk_frozen BK5 2; have z3 := blk_frozen BK5 3)
        refine bodyPost_ret (results_cell_row rfl _ _ w.heap.size 28 _ (0, 0) _ rfl (put4 _ _ _ _ BK5) Try.underlying28 rfl (by kernel_rfl)) rfl ?_
        simp only [Hid, Prod.mk.injEq] at HT2
        obtain ⟨rfl, rfl, rfl, rfl⟩ := HT2
        exact ⟨_, rfl, Kd.R_nil _ _ _ _ _, put4_below _ _ _ _ HB5⟩
      · have d4 : ((makeGo p.2 []).1.toList == a0.toList) = false := by rw [tl_beq]; exact decide_eq_false heq
        go_wp2_with (go_at_call 36; refine (make_any A c p.2 _ HC hl).mono ?_; rintro e5 w5 ⟨rfl, hb⟩; have HB5 := Lib.hid (below_step HB4 hb); have BK5 := Lib.hid (blk_below BK4 hb); have HI5 := Lib.hid (blk_below HI4 hb); have HM5 := Lib.hid (blk_below HM4 hb); have HE5 : Hid (Ents w5 0 es wordsL) := Lib.hid (HE4.keep hb.size (fun g cs hg => blk_below hg hb)); clear hb)
        refine ⟨⟨seen.push e.born, 5, Nat.le_refl _, HI5, HM5, BK5, HB5, HE5, Lib.hid ?_⟩, ?_⟩
        · intro x hx hc q hq hk
          rw [contains_push] at hc
          rcases (Bool.or_eq_true_iff ..).mp hc with hc | hc
          · exact HS x hx hc q hq hk
          · have hb1 : x.born = e.born := by simpa using hc
            obtain rfl := born_inj HE3.nodup hx HX hb1
            rw [show x.key = _ from HK] at hk
            injection hk with _ hk
            obtain rfl := keys_one p HP q hq hk
            exact heq
        · simp only [World.rangeLeft, show w5.heap[b]? = _ from HM5, show w5.heap[r]? = _ from HI5, show wr.heap[b]? = _ from HM2, show wr.heap[r]? = _ from HI]
          exact left_shrinks es.toArray seen e HL
end Go.Proofs.Ytdkjlbbbdjkhbaa.Hand
