/- The law RulesSafe returns true. Conditions: texts below 2^32 - 96 bytes; fewer than 2^32 - 96 parts. -/
import Derived.Test.YtchooidhieaphaaGreatDoorValueAll
import Derived.Test.YtchooidhieaphaaGreatDoorSafeFacts
import Derived.Deep.DeepCutAuto
set_option linter.unusedVariables false
set_option linter.unusedSimpArgs false
namespace Go.Proofs.YtchooidhieaphaaGreatDoor
open Go.RowKit Go.Proofs.YtchooidhieaphaaGreatDoorW.PrintWords PRulesValues
theorem three_below (w : World) (a b c : Obj) : Below w.heap.size w (((w.alloc a).alloc b).alloc c).drew :=
  Below.drew ((two_below w a b).alloc (by rw [alloc_size, alloc_size]; omega) c)
theorem three_mid (w : World) (a b c : Obj) : (((w.alloc a).alloc b).alloc c).drew.heap[w.heap.size + 1]? = some b := by
  have := blk_new (w.alloc a) b
  rw [alloc_size] at this
  exact blk_drew (blk_alloc this c)
theorem three_last (w : World) (a b c : Obj) : (((w.alloc a).alloc b).alloc c).drew.heap[w.heap.size + 1 + 1]? = some c := by
  have := blk_new ((w.alloc a).alloc b) c
  rw [alloc_size, alloc_size] at this
  exact blk_drew this
end Go.Proofs.YtchooidhieaphaaGreatDoor
