/- The law RulesNames returns true. Condition: texts below 2^32 - 15 bytes. -/
import Derived.Test.YtchooidhieaphaaGreatDoorLive
import Derived.Test.YtchooidhieaphaaGreatDoorRefNames
set_option linter.unusedVariables false
set_option linter.unusedSimpArgs false
namespace Go.Proofs.YtchooidhieaphaaGreatDoor
open Go.RowKit Go.Proofs.YtchooidhieaphaaGreatDoorW.PrintWords PRulesValues

set_option maxRecDepth 100000 in
set_option maxHeartbeats 1600000 in
theorem names_any (a b : ByteArray) (w : World) (hG : Good w) (ha : a.size < 4294967281) (hb : b.size < 4294967281) :
    Calls Tryz.prog 3 #[.string a, .string b] w fun en w' => en = .returned (.bool true) ∧ Below w.heap.size w w' := by
  have HE := Lib.hid (element_any a w hG ha)
  have HR := Lib.hid (refElem_any a w)
  have HA := Lib.hid (fun w1 (h : Below w.heap.size w w1) => attr_any a b w1 (hG.below h) ha hb)
  have HRA := Lib.hid (fun w1 => refAttr_any a b w1)
  have HL := Lib.hid (fun w1 (h : Below w.heap.size w w1) => live_any w1 (hG.below h))
  obtain ⟨k, hk⟩ : ∃ k, elemF a.data.toList = k := ⟨_, rfl⟩
  obtain ⟨f, hf⟩ : ∃ f, attrF a.data.toList b.data.toList = f := ⟨_, rfl⟩
  rw [hk] at HE HR
  rw [hf] at HA HRA
  clear hk hf hG
  go_enter Tryz.func3, Tryz.ntmps3
  go_wp2_with fail
  refine HE.out.mono ?_
  rintro en w' ⟨rfl, rfl⟩
  go_wp2_with fail
  refine HR.out.mono ?_
  rintro en w1 ⟨rfl, n, rfl⟩
  have HB1 := Lib.hid (below_drewN' (Below.refl w.heap.size w) n)
  go_wp2_with fail
  refine (HA.out _ HB1.out).mono ?_
  rintro en w2 ⟨rfl, hb⟩
  have HB2 := Lib.hid (below_then' HB1.out hb)
  clear hb
  go_wp2_with fail
  refine (HRA.out w2).mono ?_
  rintro en w3 ⟨rfl, m, rfl⟩
  have HB3 := Lib.hid (below_drewN' HB2.out m)
  cases f <;>
  · go_wp2_with fail
    refine (HL.out _ HB3.out).mono ?_
    rintro en w4 ⟨rfl, hb⟩
    have HB4 := Lib.hid (below_then' HB3.out hb)
    clear hb
    go_wp2_with fail
    go_ret
    exact ⟨rfl, HB4.out⟩
end Go.Proofs.YtchooidhieaphaaGreatDoor
