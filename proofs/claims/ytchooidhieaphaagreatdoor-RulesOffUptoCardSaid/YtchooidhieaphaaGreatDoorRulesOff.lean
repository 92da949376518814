/- The law RulesOff returns true. Condition: texts below 2^32 - 96 bytes. -/
import Derived.Test.YtchooidhieaphaaGreatDoorValueAll
set_option linter.unusedVariables false
set_option linter.unusedSimpArgs false
namespace Go.Proofs.YtchooidhieaphaaGreatDoor
open Go.RowKit Go.Proofs.YtchooidhieaphaaGreatDoorW.PrintWords PRulesValues

theorem off_src (a v : List UInt8) : (valueF false false [] a [115, 114, 99] v).2 = false := by
  unfold valueF
  have hm : methOf [115, 114, 99] = 24 := by decide
  rw [hm]
  have hj : (judgeF false false [] 24 v).2 = false := by
    show (srcF false [] v).2 = false
    unfold srcF srcG
    rw [if_neg (fun h => absurd h.2 (by decide)), if_neg (fun h => by
      have h1 := h.1
      have h2 := h.2.1
      simp at h2
      omega)]
  rw [hj]
  split <;> rfl
theorem off_style (a v : List UInt8) : (valueF false false [] a [115, 116, 121, 108, 101] v).2 = false := by
  unfold valueF
  have hm : methOf [115, 116, 121, 108, 101] = 25 := by decide
  rw [hm]
  have hj : (judgeF false false [] 25 v).2 = false := rfl
  rw [hj]
  split <;> rfl
theorem attr_srcset (a : List UInt8) : attrF a [115, 114, 99, 115, 101, 116] = false := by
  unfold attrF ownWords
  have h1 : decide ([115, 114, 99, 115, 101, 116] ∈ allWords) = false := by decide
  rw [h1, Bool.false_or]
  repeat' split
  all_goals simp
theorem off_srcset (b1 b2 : Bool) (l : List S39) (a v : List UInt8) : (valueF b1 b2 l a [115, 114, 99, 115, 101, 116] v).2 = false := by
  unfold valueF
  rw [attr_srcset]
  rfl

set_option maxRecDepth 100000 in
set_option maxHeartbeats 3200000 in
theorem off_any (a v : ByteArray) (w : World) (hG : Good w) (ha : a.size < 4294967200) (hv : v.size < 4294967200) :
    Calls Tryz.prog 7 #[.string a, .string v] w fun en w' => en = .returned (.bool true) ∧ Below w.heap.size w w' := by
  have HL := Lib.hid (fun w1 (hb : Below w.heap.size w w1) => live_any w1 (hG.below hb))
  by_cases h1 : v.size > 1000
  · have d1 : decide ((v.size : Int) > 1000) = true := decide_eq_true (by omega)
    clear hG
    go_enter Tryz.func7, Tryz.ntmps7
    go_wp2_with fail
    refine (HL.out w (Below.refl _ _)).mono ?_
    rintro en w1 ⟨rfl, hb⟩
    have HB := Lib.hid hb
    clear hb
    go_wp2_with fail
    go_ret
    exact ⟨rfl, HB.out⟩
  · have d1 : decide ((v.size : Int) > 1000) = false := decide_eq_false (by omega)
    by_cases h2 : a.size > 1000
    · have d2 : decide ((a.size : Int) > 1000) = true := decide_eq_true (by omega)
      clear hG
      go_enter Tryz.func7, Tryz.ntmps7
      go_wp2_with fail
      refine (HL.out w (Below.refl _ _)).mono ?_
      rintro en w1 ⟨rfl, hb⟩
      have HB := Lib.hid hb
      clear hb
      go_wp2_with fail
      go_ret
      exact ⟨rfl, HB.out⟩
    · have d2 : decide ((a.size : Int) > 1000) = false := decide_eq_false (by omega)
      have V1 := Lib.hid (fun w1 (hb : Below w.heap.size w w1) => by
        have := value_any false false false none 0 [] a ⟨#[115, 114, 99]⟩ v w1 (hG.below hb) (by omega) (by decide) hv (Kd.C_nil k39 w1) (by decide)
        rwa [show (valueF false false [] a.data.toList (⟨#[115, 114, 99]⟩ : ByteArray).data.toList v.data.toList).2 = false from off_src _ _] at this)
      have V2 := Lib.hid (fun w1 (hb : Below w.heap.size w w1) => by
        have := value_any false false false none 0 [] a ⟨#[115, 116, 121, 108, 101]⟩ v w1 (hG.below hb) (by omega) (by decide) hv (Kd.C_nil k39 w1) (by decide)
        rwa [show (valueF false false [] a.data.toList (⟨#[115, 116, 121, 108, 101]⟩ : ByteArray).data.toList v.data.toList).2 = false from off_style _ _] at this)
      have V3 := Lib.hid (fun w1 (hb : Below w.heap.size w w1) => by
        have := value_any true true false none 0 [] a ⟨#[115, 114, 99, 115, 101, 116]⟩ v w1 (hG.below hb) (by omega) (by decide) hv (Kd.C_nil k39 w1) (by decide)
        rwa [show (valueF true true [] a.data.toList (⟨#[115, 114, 99, 115, 101, 116]⟩ : ByteArray).data.toList v.data.toList).2 = false from off_srcset _ _ _ _ _] at this)
      clear hG
      go_enter Tryz.func7, Tryz.ntmps7
      go_wp2_with fail
      refine (V1.out w (Below.refl _ _)).mono ?_
      rintro en w1 ⟨rfl, hb⟩
      have HB1 := Lib.hid hb
      clear hb
      go_wp2_with fail
      refine (V2.out w1 HB1.out).mono ?_
      rintro en w2 ⟨rfl, hb⟩
      have HB2 := Lib.hid (below_then' HB1.out hb)
      clear hb
      go_wp2_with fail
      refine (V3.out w2 HB2.out).mono ?_
      rintro en w3 ⟨rfl, hb⟩
      have HB3 := Lib.hid (below_then' HB2.out hb)
      clear hb
      go_wp2_with fail
      refine (HL.out w3 HB3.out).mono ?_
      rintro en w4 ⟨rfl, hb⟩
      have HB4 := Lib.hid (below_then' HB3.out hb)
      clear hb
      go_wp2_with fail
      go_ret
      exact ⟨rfl, HB4.out⟩
end Go.Proofs.YtchooidhieaphaaGreatDoor
