/- Which actions change an answer, and how many bytes one may have: for every kind, size and query. -/
import Derived.Test.YtdkjlbbbdjkhbaaPAllx24
import Derived.Test.YtdkjlbbbdjkhbaaRepA
set_option linter.unusedVariables false
namespace Go.Proofs.Ytdkjlbbbdjkhbaa.Pure
open Go.RowKit Go.Proofs.Ytdkjlbbbdjkhbaa.PAll Go.Proofs.Ytdkjlbbbdjkhbaa.Hand Go.Proofs.Ytdkjlbbbdjkhbaa.RepA Go.Proofs.YtdkjlbbbdjkhbaaW.PrintWords Go.Proofs.YtdkjlbbbdjkhbaaW.PrintLast Go.Proofs.YtdkjlbbbdjkhbaaW.PrintMore
/-- What reply.Changes says of a kind. -/
def turns (kind : Int) (tcp : Bool) : Bool := if kind = 3 ∨ kind = 4 ∨ kind = 5 ∨ kind = 7 ∨ kind = 8 then true else if kind = 6 then !tcp else false
theorem changes (k : Nat) (kind : Int) (s : ByteArray) (b : Bool) (l : List S43) (tcp : Bool) : reply_Changes.f (k + 1) kind s b l tcp = some (turns kind tcp) := by
  unfold reply_Changes.f turns
  simp only [reply_Changes.j0]
  by_cases h3 : kind = 3
  · subst h3; rfl
  by_cases h4 : kind = 4
  · subst h4; rfl
  by_cases h5 : kind = 5
  · subst h5; rfl
  by_cases h7 : kind = 7
  · subst h7; rfl
  by_cases h8 : kind = 8
  · subst h8; rfl
  by_cases h6 : kind = 6
  · subst h6; rfl
  rw [if_neg h3, if_neg h4, if_neg h5, if_neg h7, if_neg (by simpa using h8), if_neg h6, if_neg (by omega), if_neg h6]
theorem mxmn (s : Int) : mx 512 (mn s 4096) = mn (mx 512 s) 4096 := by unfold mx mn; (repeat' split) <;> omega
theorem j0_ok (k : Nat) (tcp : Bool) (size kind : Int) (t : Bool) (ht : turns kind tcp = t) (h0 : Int) (h1 : Bool) (h2 : Int) (h3 h4 h5 h6 : Bool) (h7 : Int) (s8 : ByteArray) (h9 : Int) (l10 l11 l12 : List S43) (h13 : Int) :
    bolterlaw21_ReplyChanges.j0 (k + 2) tcp size kind t h0 h1 h2 h3 h4 h5 h6 h7 s8 h9 l10 l11 l12 h13 = some true := by
  subst ht
  simp only [bolterlaw21_ReplyChanges.j0]
  cases tcp
  · rw [if_neg Bool.false_ne_true, changes, Option.bind_some, if_pos (by simp)]
    unfold reply_Limit.f
    rw [if_neg Bool.false_ne_true, Option.bind_some, mxmn]
    simp
  · rw [if_pos rfl, changes, Option.bind_some, if_pos (by simp)]
    unfold reply_Limit.f
    rw [if_pos rfl, Option.bind_some]
    simp
theorem ReplyChanges (kind : Int) (tcp : Bool) (size : Int) (h0 : Int) (h1 : Bool) (h2 : Int) (h3 h4 h5 h6 : Bool) (h7 : Int) (s8 : ByteArray) (h9 : Int) (l10 l11 l12 : List S43) (h13 : Int) :
    bolterlaw21_ReplyChanges.f 12 kind tcp size h0 h1 h2 h3 h4 h5 h6 h7 s8 h9 l10 l11 l12 h13 = some true := by
  unfold bolterlaw21_ReplyChanges.f
  rw [awake_at, Option.bind_some, if_pos rfl]
  by_cases e3 : kind = 3
  · subst e3; rw [if_pos rfl]; exact j0_ok 10 _ _ _ _ rfl _ _ _ _ _ _ _ _ _ _ _ _ _ _
  rw [if_neg e3]
  by_cases e4 : kind = 4
  · subst e4; rw [if_pos rfl]; exact j0_ok 10 _ _ _ _ rfl _ _ _ _ _ _ _ _ _ _ _ _ _ _
  rw [if_neg e4]
  by_cases e5 : kind = 5
  · subst e5; rw [if_pos rfl]; exact j0_ok 10 _ _ _ _ rfl _ _ _ _ _ _ _ _ _ _ _ _ _ _
  rw [if_neg e5]
  by_cases e7 : kind = 7
  · subst e7; rw [if_pos rfl]; exact j0_ok 10 _ _ _ _ rfl _ _ _ _ _ _ _ _ _ _ _ _ _ _
  rw [if_neg e7]
  by_cases e8 : kind = 8
  · subst e8; rw [if_pos rfl]; exact j0_ok 10 _ _ _ _ rfl _ _ _ _ _ _ _ _ _ _ _ _ _ _
  rw [if_neg e8]
  by_cases e6 : kind = 6
  · subst e6; rw [if_pos rfl]; exact j0_ok 10 _ _ _ _ rfl _ _ _ _ _ _ _ _ _ _ _ _ _ _
  rw [if_neg e6]
  refine j0_ok 10 _ _ _ _ ?_ _ _ _ _ _ _ _ _ _ _ _ _ _ _
  unfold turns
  rw [if_neg (by omega), if_neg e6]
end Go.Proofs.Ytdkjlbbbdjkhbaa.Pure
