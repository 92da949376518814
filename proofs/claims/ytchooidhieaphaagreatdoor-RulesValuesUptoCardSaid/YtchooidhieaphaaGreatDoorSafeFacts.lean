/- What a kept address begins with, and which element an address stands on: plain lists of bytes, no program. -/
import Derived.Test.YtchooidhieaphaaGreatDoorValueAll
import Derived.Test.YtchooidhieaphaaGreatDoorBegins
set_option linter.unusedVariables false
set_option linter.unusedSimpArgs false
namespace Go.Proofs.YtchooidhieaphaaGreatDoor
open Go.RowKit PRulesValues
theorem cut_one (l : List UInt8) (c : UInt8) : ((Lib.cut l [c]).2.2 = true → l = (Lib.cut l [c]).1 ++ c :: (Lib.cut l [c]).2.1) ∧ ((Lib.cut l [c]).2.2 = false → (Lib.cut l [c]).1 = l ∧ (Lib.cut l [c]).2.1 = []) := by
  unfold Lib.cut
  rcases Lib.index_spec l [c] with ⟨h, _⟩ | ⟨i, h, hi, ho, _⟩
  · rw [h, if_neg (by decide)]
    exact ⟨fun h => (by cases h), fun _ => ⟨rfl, rfl⟩⟩
  · rw [h, if_pos (by omega), Int.toNat_natCast]
    refine ⟨fun _ => ?_, fun h => (by cases h)⟩
    unfold Lib.occAt at ho
    cases hd : l.drop i with
    | nil => rw [hd] at ho; simp at ho
    | cons d r =>
      rw [hd] at ho
      have hdc : c = d := by simpa using ho
      subst hdc
      have h1 : l.drop (i + 1) = r := by
        have := congrArg (List.drop 1) hd
        simpa [List.drop_drop, Nat.add_comm] using this
      show l = l.take i ++ c :: l.drop (i + 1)
      rw [h1, ← hd, List.take_append_drop]
end Go.Proofs.YtchooidhieaphaaGreatDoor
