/- A reply without records, and one that has what upstream answered: for every query, code and answer. -/
import Derived.Test.YtdkjlbbbdjkhbaaPAllx29
import Derived.Test.YtdkjlbbbdjkhbaaRepA
import Derived.Test.YtdkjlbbbdjkhbaaRepB
set_option linter.unusedVariables false
namespace Go.Proofs.Ytdkjlbbbdjkhbaa.Pure
open Go.RowKit Go.Proofs.Ytdkjlbbbdjkhbaa.PAll Go.Proofs.Ytdkjlbbbdjkhbaa.Hand Go.Proofs.Ytdkjlbbbdjkhbaa.RepA Go.Proofs.Ytdkjlbbbdjkhbaa.RepB Go.Proofs.YtdkjlbbbdjkhbaaW.PrintWords Go.Proofs.YtdkjlbbbdjkhbaaW.PrintLast Go.Proofs.YtdkjlbbbdjkhbaaW.PrintMore
theorem ReplyBase (h0 : Int) (h1 : Bool) (h2 : Int) (h3 h4 h5 h6 : Bool) (h7 : Int) (s8 : ByteArray) (h9 : Int) (l10 l11 l12 : List S43) (h13 : Int) (code : Int) (u0 : Int) (u1 : Bool) (u2 : Int) (u3 u4 u5 u6 : Bool) (u7 : Int) (s8u : ByteArray) (u9 : Int) (m10 m11 m12 : List S43) (u13 : Int)
    (b10 : m10.length * 40 ≤ reachBytes) (b11 : m11.length * 40 ≤ reachBytes) (b12 : m12.length * 40 ≤ reachBytes) :
    ∃ k, bolterlaw21_ReplyBase.f k h0 h1 h2 h3 h4 h5 h6 h7 s8 h9 l10 l11 l12 h13 code u0 u1 u2 u3 u4 u5 u6 u7 s8u u9 m10 m11 m12 u13 = some true := by
  have w : ∀ {l : List S43}, l.length * 40 ≤ reachBytes → l.length ≤ 140737488351232 := by intro l h; unfold reachBytes at h; omega
  obtain ⟨KA, hA⟩ : Ev (fun k => bolterlaw21_awake.f k) true := Ev.of (k := 12) (fun k => bolterlaw21_awake.mono k) awake_at
  obtain ⟨K1, H1⟩ := same_self h0 true h2 false false h5 true (Go.bits .and .i64 code 15) s8 h9 [] [] [] (mn h13 4096) (by decide) (by decide) (by decide)
  obtain ⟨K2, H2⟩ := same_self h0 true h2 u3 false h5 true (Go.bits .and .i64 u7 15) s8 h9 m10 m11 m12 (mn h13 4096) (w b10) (w b11) (w b12)
  dsimp only at hA H1 H2
  have eB : ∀ c, reply_Base.f h0 h1 h2 h3 h4 h5 h6 h7 s8 h9 l10 l11 l12 h13 c = some (h0, true, h2, false, false, h5, true, Go.bits .and .i64 c 15, s8, h9, [], [], [], mn h13 4096) := fun _ => rfl
  refine ⟨KA + K1 + K2, ?_⟩
  unfold bolterlaw21_ReplyBase.f
  rw [hA _ (by omega), Option.bind_some, if_pos rfl, base_eq, eB, Option.bind_some, Option.bind_some]
  dsimp only
  rw [H1 _ (by omega), Option.bind_some, if_pos rfl, passed_eq, passed_some _ _ _ _ _ _ _ _ _ _ _ _ _ _ _ _ _ _ _ _ _ _ _ _ _ _ _ _ b10 b11 b12, Option.bind_some, Option.bind_some]
  dsimp only
  rw [H2 _ (by omega)]
  rfl
end Go.Proofs.Ytdkjlbbbdjkhbaa.Pure
