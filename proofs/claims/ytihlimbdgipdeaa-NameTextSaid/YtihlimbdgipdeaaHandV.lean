import Derived.Test.YtihlimbdgipdeaaHandT
/-! By hand: '[]byte(s)' as a row that is read. -/
namespace Go.Proofs.Ytihlimbdgipdeaa.Hand
open Go.RowKit Go.Proofs.YtihlimbdgipdeaaW.PrintWords Go.Proofs.YtihlimbdgipdeaaW.PrintLast Go.Proofs.YtihlimbdgipdeaaW.PrintMore
set_option linter.unusedVariables false
/-- A row of bytes that is read, whatever its block's frozen range. -/
def CvR (w : World) (v : Value) (xs : List Int) : Prop := ∃ A c, v = .slice A xs.length c ∧ (Kd.int .u8).C w A xs.length xs
theorem CvR_slice {w : World} {v : Value} {xs : List Int} (h : CvR w v xs) : ∃ A c, v = .slice A xs.length c := by
  obtain ⟨A, c, e, _⟩ := h
  exact ⟨A, c, e⟩
theorem CvR_C {w : World} {A : Option Addr} {n c : Nat} {xs : List Int} (h : CvR w (.slice A n c) xs) : (Kd.int .u8).C w A xs.length xs := by
  obtain ⟨A', c', e, h⟩ := h
  injection e with h1 h2 h3
  subst h1
  exact h
theorem CvR_below {w w1 : World} {v : Value} {xs : List Int} (h : CvR w v xs) (hb : Below w.heap.size w w1) : CvR w1 v xs := by
  obtain ⟨A, c, e, h⟩ := h
  exact ⟨A, c, e, Kd.C_below h hb⟩
theorem CvR_drewN {w : World} {v : Value} {xs : List Int} (n : Nat) (h : CvR w v xs) : CvR (w.drewN n) v xs := CvR_below h (pw_below_drewN (Below.refl _ _) n)
theorem CvR_size (a : ByteArray) (i : Nat) (x : Int) : (a.extract i (wrap64 x).toNat).size ≤ 9223372036854775807 := by
  have h : wrap64 x ≤ 9223372036854775807 := by unfold wrap64; omega
  have h2 : (a.extract i (wrap64 x).toNat).size ≤ (wrap64 x).toNat := by rw [ByteArray.size_extract]; omega
  omega
section
variable {P : Program} {ops : Array Oper} {rest : List Oper} {o : Oper} {a : Act} {Q : Exit → Act → World → Prop}
theorem CvR_conv {w0 W : World} (base : Nat) {e : TypeId} (hgd : o.guard = none) {N : Tmp} (hd : o.dst = some N) (src t : TypeId) (x : Operand) (ho : o.op = .convert src t x) (s : ByteArray) (hx : a.eval x = .string s) {us : TypeDesc}
    (hs : P.underlying src = some us) (ht : P.underlying t = some (.slice e)) (he : P.underlying e = some (.int .u8)) {ok : Nat → Prop} (_hok : ok W.heap.size) (hm : s.size ≤ 9223372036854775807) (HB : Below W.heap.size W W) (hbase : W.heap.size ≤ W.heap.size)
    (h : ∀ v1 w1, CvR w1 v1 (bytesOf s) → Below W.heap.size W w1 → True → True → wpList P ops Q rest (a.put o.dst v1) w1) : wpList P ops Q (o :: rest) a W := by
  have hl : (bytesOf s).length = s.size := bytesOf_length s
  refine Kd.event_run (v := .slice (some ⟨W.heap.size, 0, none⟩) s.size (grownCap W s.size 0 e)) (w1 := Lib.bytesWorld W e s) hgd ?_ (h _ _ ⟨_, _, by rw [hl], ?_⟩ (bytes_below HB hbase e s) trivial trivial)
  · simp [execOp, ho, hx, print_bytes src t e hs ht he s W]
  · rw [hl]
    refine Kd.C_of_reads (enc := Value.int .u8) (d := (0 : Int)) ?_
    have hr := bytes_reads W e s hm
    exact hr
end
end Go.Proofs.Ytihlimbdgipdeaa.Hand
