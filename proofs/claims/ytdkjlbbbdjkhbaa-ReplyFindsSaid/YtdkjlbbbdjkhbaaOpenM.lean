/- By hand: messages, actions, records as arguments. -/
import Derived.Test.YtdkjlbbbdjkhbaaOpenK
import Derived.Test.YtdkjlbbbdjkhbaaPAllx0
set_option linter.unusedVariables false
namespace Go.Proofs.Ytdkjlbbbdjkhbaa.OpenK
open Go.ChangeShapes Go.WideShapes Go.RowKit Go.Proofs.YtdkjlbbbdjkhbaaW.PrintWords Go.Proofs.Ytdkjlbbbdjkhbaa.PAll

theorem Opens.structOf {α : Type} {P : Program} {d : Kd α} {G : α → Prop} {t : TypeId} {fs : Array Field} (ht : P.underlying t = some (.struct fs)) (hc : P.cellsOf t = d.sz) (h : OpensFs P d G fs.toList 0) : Opens P d G t :=
  Opens.struct (fun x => x) (fun x => x) (fun _ => rfl) ht hc h
def InI64 (n : Int) : Prop := -9223372036854775808 ≤ n ∧ n ≤ 9223372036854775807
def InU (m n : Int) : Prop := 0 ≤ n ∧ n ≤ m
theorem i64_of {n : Int} (h : (Lit.int .i64 n).wf = true) : InI64 n := by
  simp [Lit.wf, IntKind.min, IntKind.max, IntKind.bits, IntKind.signed] at h
  unfold InI64; omega
theorem u8_of {n : Int} (h : (Lit.int .u8 n).wf = true) : InU 255 n := by
  simp [Lit.wf, IntKind.min, IntKind.max, IntKind.bits, IntKind.signed] at h
  unfold InU; omega
theorem u16_of {n : Int} (h : (Lit.int .u16 n).wf = true) : InU 65535 n := by
  simp [Lit.wf, IntKind.min, IntKind.max, IntKind.bits, IntKind.signed] at h
  unfold InU; omega
theorem u32_of {n : Int} (h : (Lit.int .u32 n).wf = true) : InU 4294967295 n := by
  simp [Lit.wf, IntKind.min, IntKind.max, IntKind.bits, IntKind.signed] at h
  unfold InU; omega
theorem o3 : Opens Try.prog (Kd.int .i64) InI64 3 := .int Try.underlying3 (by kernel_rfl) (fun _ => i64_of)
theorem o4 : Opens Try.prog Kd.bool (fun _ => True) 4 := .bool Try.underlying4 (by kernel_rfl)
theorem o5 : Opens Try.prog (Kd.int .u8) (InU 255) 5 := .int Try.underlying5 (by kernel_rfl) (fun _ => u8_of)
theorem o9 : Opens Try.prog Kd.string (fun s => s.size ≤ reachBytes) 9 := .string Try.underlying9 (by kernel_rfl)
theorem o25 : Opens Try.prog Kd.string (fun s => s.size ≤ reachBytes) 25 := .string Try.underlying25 (by kernel_rfl)
theorem o39 : Opens Try.prog (Kd.int .u16) (InU 65535) 39 := .int Try.underlying39 (by kernel_rfl) (fun _ => u16_of)
theorem o40 : Opens Try.prog (Kd.int .u16) (InU 65535) 40 := .int Try.underlying40 (by kernel_rfl) (fun _ => u16_of)
theorem o41 : Opens Try.prog (Kd.int .u32) (InU 4294967295) 41 := .int Try.underlying41 (by kernel_rfl) (fun _ => u32_of)
abbrev RecG (r : S43) : Prop := r.f0.size ≤ reachBytes ∧ InU 65535 r.f1 ∧ InU 4294967295 r.f2 ∧ r.f3.size ≤ reachBytes
theorem o43 : Opens Try.prog k43 RecG 43 :=
  Opens.struct (fun x : S43 => (x.f0, x.f1, x.f2, x.f3)) (fun y => ⟨y.1, y.2.1, y.2.2.1, y.2.2.2⟩) (fun _ => rfl) Try.underlying43 (by kernel_rfl)
    (.cons rfl o25 (.cons rfl o40 (.cons rfl o41 (.one rfl o9))))
abbrev RecsG (l : List S43) : Prop := l.length * 40 ≤ reachBytes ∧ ∀ r ∈ l, RecG r
theorem bytes43 : Try.prog.bytesOf 43 = 40 := by kernel_rfl
theorem o26 : Opens Try.prog (Kd.slice 43 k43) RecsG 26 := by
  have h := Opens.slice o43 Try.underlying26 (by kernel_rfl) z43
  rw [bytes43] at h
  exact h
abbrev kHdr : Kd (Int × Bool × Int × Bool × Bool × Bool × Bool × Int) := Kd.pair (Kd.int .u16) (Kd.pair Kd.bool (Kd.pair (Kd.int .i64) (Kd.pair Kd.bool (Kd.pair Kd.bool (Kd.pair Kd.bool (Kd.pair Kd.bool (Kd.int .i64)))))))
abbrev HdrG (h : Int × Bool × Int × Bool × Bool × Bool × Bool × Int) : Prop := InU 65535 h.1 ∧ True ∧ InI64 h.2.2.1 ∧ True ∧ True ∧ True ∧ True ∧ InI64 h.2.2.2.2.2.2.2
theorem o54 : Opens Try.prog kHdr HdrG 54 := by
  have h := Opens.structOf (d := kHdr) Try.underlying54 (by kernel_rfl) (.cons rfl o39 (.cons rfl o4 (.cons rfl o3 (.cons rfl o4 (.cons rfl o4 (.cons rfl o4 (.cons rfl o4 (.one rfl o3))))))))
  exact h
abbrev kQst : Kd (ByteArray × Int) := Kd.pair Kd.string (Kd.int .u16)
abbrev QstG (q : ByteArray × Int) : Prop := q.1.size ≤ reachBytes ∧ InU 65535 q.2
theorem o56 : Opens Try.prog kQst QstG 56 := by
  have h := Opens.structOf (d := kQst) Try.underlying56 (by kernel_rfl) (.cons rfl o25 (.one rfl o40))
  exact h
abbrev kRecs : Kd (List S43) := Kd.slice 43 k43
abbrev kMsg : Kd ((Int × Bool × Int × Bool × Bool × Bool × Bool × Int) × (ByteArray × Int) × List S43 × List S43 × List S43 × Int) := Kd.pair kHdr (Kd.pair kQst (Kd.pair kRecs (Kd.pair kRecs (Kd.pair kRecs (Kd.int .i64)))))
abbrev MsgG (m : (Int × Bool × Int × Bool × Bool × Bool × Bool × Int) × (ByteArray × Int) × List S43 × List S43 × List S43 × Int) : Prop := HdrG m.1 ∧ QstG m.2.1 ∧ RecsG m.2.2.1 ∧ RecsG m.2.2.2.1 ∧ RecsG m.2.2.2.2.1 ∧ InI64 m.2.2.2.2.2
theorem o58 : Opens Try.prog kMsg MsgG 58 := by
  have h := Opens.structOf (d := kMsg) Try.underlying58 (by kernel_rfl) (.cons rfl o54 (.cons rfl o56 (.cons rfl o26 (.cons rfl o26 (.cons rfl o26 (.one rfl o3))))))
  exact h
/-- What is known of a message that comes in. -/
structure MsgIs (W : World) (v : Value) (m : (Int × Bool × Int × Bool × Bool × Bool × Bool × Int) × (ByteArray × Int) × List S43 × List S43 × List S43 × Int) : Prop where
  val : ∃ A0 c0 A1 c1 A2 c2, v = .agg #[.int .u16 m.1.1, .bool m.1.2.1, .int .i64 m.1.2.2.1, .bool m.1.2.2.2.1, .bool m.1.2.2.2.2.1, .bool m.1.2.2.2.2.2.1, .bool m.1.2.2.2.2.2.2.1, .int .i64 m.1.2.2.2.2.2.2.2, .string m.2.1.1, .int .u16 m.2.1.2, .slice A0 m.2.2.1.length c0, .slice A1 m.2.2.2.1.length c1, .slice A2 m.2.2.2.2.1.length c2, .int .i64 m.2.2.2.2.2] ∧
    Kd.C k43 W A0 m.2.2.1.length m.2.2.1 ∧ m.2.2.1.length ≤ c0 ∧ Kd.C k43 W A1 m.2.2.2.1.length m.2.2.2.1 ∧ m.2.2.2.1.length ≤ c1 ∧ Kd.C k43 W A2 m.2.2.2.2.1.length m.2.2.2.2.1 ∧ m.2.2.2.2.1.length ≤ c2
  id : InU 65535 m.1.1
  op : InI64 m.1.2.2.1
  code : InI64 m.1.2.2.2.2.2.2.2
  nm : m.2.1.1.size ≤ reachBytes
  ty : InU 65535 m.2.1.2
  r0 : RecsG m.2.2.1
  r1 : RecsG m.2.2.2.1
  r2 : RecsG m.2.2.2.2.1
  sz : InI64 m.2.2.2.2.2
theorem msg_open {W : World} {m} {cs : List Value} (h : kMsg.K W m cs) : ∃ A0 c0 A1 c1 A2 c2, cs = [.int .u16 m.1.1, .bool m.1.2.1, .int .i64 m.1.2.2.1, .bool m.1.2.2.2.1, .bool m.1.2.2.2.2.1, .bool m.1.2.2.2.2.2.1, .bool m.1.2.2.2.2.2.2.1, .int .i64 m.1.2.2.2.2.2.2.2, .string m.2.1.1, .int .u16 m.2.1.2, .slice A0 m.2.2.1.length c0, .slice A1 m.2.2.2.1.length c1, .slice A2 m.2.2.2.2.1.length c2, .int .i64 m.2.2.2.2.2] ∧
    Kd.C k43 W A0 m.2.2.1.length m.2.2.1 ∧ m.2.2.1.length ≤ c0 ∧ Kd.C k43 W A1 m.2.2.2.1.length m.2.2.2.1 ∧ m.2.2.2.1.length ≤ c1 ∧ Kd.C k43 W A2 m.2.2.2.2.1.length m.2.2.2.2.1 ∧ m.2.2.2.2.1.length ≤ c2 := by
  obtain ⟨_, _, rfl, ⟨_, _, rfl, h0, _, _, rfl, h1, _, _, rfl, h2, _, _, rfl, h3, _, _, rfl, h4, _, _, rfl, h5, _, _, rfl, h6, h7⟩, _, _, rfl, ⟨_, _, rfl, h8, h9⟩, _, _, rfl, ⟨A0, c0, rfl, l0, r0⟩, _, _, rfl, ⟨A1, c1, rfl, l1, r1⟩, _, _, rfl, ⟨A2, c2, rfl, l2, r2⟩, h13⟩ := h
  rw [show _ = [Value.int .u16 m.1.1] from h0, show _ = [Value.bool m.1.2.1] from h1, show _ = [Value.int .i64 m.1.2.2.1] from h2, show _ = [Value.bool m.1.2.2.2.1] from h3, show _ = [Value.bool m.1.2.2.2.2.1] from h4, show _ = [Value.bool m.1.2.2.2.2.2.1] from h5, show _ = [Value.bool m.1.2.2.2.2.2.2.1] from h6, show _ = [Value.int .i64 m.1.2.2.2.2.2.2.2] from h7,
    show _ = [Value.string m.2.1.1] from h8, show _ = [Value.int .u16 m.2.1.2] from h9, show _ = [Value.int .i64 m.2.2.2.2.2] from h13]
  exact ⟨A0, c0, A1, c1, A2, c2, rfl, r0, l0, r1, l1, r2, l2⟩
theorem msg_arg {H : Type} {enc : TypeId × Value → H} {W : World} {r : Reach} {base b0 : Nat} {spare : Nat → Bool} {held : Bool} {v : Value} {y : DataW H} {p : List MemPlace} {ts : List TypeId} {ds : List (DataW H)} {j : Nat}
    (hsz : (DataW.weightsEach Try.prog ts ds).all (· ≤ reachBytes) = true) (ht : ts[j]? = some 58) (hd : ds[j]? = some y) (hk : Value.okWide Try.prog W r b0 58 v) (hv : DataW.Trod enc Try.prog W base spare held 58 v y p) : ∃ m, MsgIs W v m := by
  obtain ⟨cs, rfl, _⟩ := okWide_struct Try.underlying58 hk
  obtain ⟨m, hK, g⟩ := o58.arg hsz ht hd hv
  obtain ⟨A0, c0, A1, c1, A2, c2, e, hh⟩ := msg_open hK
  obtain ⟨⟨g0, _, g2, _, _, _, _, g7⟩, ⟨g8, g9⟩, g10, g11, g12, g13⟩ := g
  refine ⟨m, ⟨⟨A0, c0, A1, c1, A2, c2, ?_, hh⟩, g0, g2, g7, g8, g9, g10, g11, g12, g13⟩⟩
  have e' : cs.toList = _ := e
  cases cs
  exact congrArg (fun l => Value.agg ⟨l⟩) e'
end Go.Proofs.Ytdkjlbbbdjkhbaa.OpenK
