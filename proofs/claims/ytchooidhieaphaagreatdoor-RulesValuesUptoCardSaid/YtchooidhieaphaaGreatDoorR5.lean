/- Printed functions of the document (out of the kit's print, what is not needed left out): each returns what its plain function says. -/
import Derived.Test.YtchooidhieaphaaGreatDoorR0
import Derived.Test.YtchooidhieaphaaGreatDoorR4
namespace Go.Proofs.YtchooidhieaphaaGreatDoor.PRulesValues
open Go.RowKit Go.Proofs.YtchooidhieaphaaGreatDoorW.PrintWords Go.Proofs.YtchooidhieaphaaGreatDoorW.PrintLast Go.Proofs.YtchooidhieaphaaGreatDoorW.PrintMore
set_option linter.unusedVariables false
set_option linter.unusedSimpArgs false
mutual
def muslinref18_Attr.j0 : Nat → ByteArray → ByteArray → Bool → Option (Bool)
  | 0, _, _, _ => none
  | k + 1, x0, x8, x9 => if x9 = true then (some true) else (if x8.toList = ([104, 114, 101, 102] : List UInt8) then (some (x0.toList == ([97] : List UInt8))) else (if x8.toList = ([115, 114, 99] : List UInt8) then (muslinref18_Attr.j1 k x0 x8 (x8.toList == ([115, 114, 99] : List UInt8))) else (if x8.toList = ([97, 108, 116] : List UInt8) then (muslinref18_Attr.j1 k x0 x8 (x8.toList == ([97, 108, 116] : List UInt8))) else (if x8.toList = ([119, 105, 100, 116, 104] : List UInt8) then (muslinref18_Attr.j1 k x0 x8 (x8.toList == ([119, 105, 100, 116, 104] : List UInt8))) else (muslinref18_Attr.j1 k x0 x8 (x8.toList == ([104, 101, 105, 103, 104, 116] : List UInt8)))))))
def muslinref18_Attr.j1 : Nat → ByteArray → ByteArray → Bool → Option (Bool)
  | 0, _, _, _ => none
  | k + 1, x0, x8, x18 => if x18 = true then (some (x0.toList == ([105, 109, 103] : List UInt8))) else (if x8.toList = ([115, 116, 97, 114, 116] : List UInt8) then (some (x0.toList == ([111, 108] : List UInt8))) else (if x8.toList = ([118, 97, 108, 117, 101] : List UInt8) then (some (x0.toList == ([108, 105] : List UInt8))) else (some false)))
end
def muslinref18_Attr.f (k : Nat) (a0 : ByteArray) (a1 : ByteArray) : Option (Bool) := (muslinref18_Element.f k a0).bind fun t124 => (if t124 = 2 then (if a1.toList = ([116, 105, 116, 108, 101] : List UInt8) then (muslinref18_Attr.j0 k a0 a1 (a1.toList == ([116, 105, 116, 108, 101] : List UInt8))) else (if a1.toList = ([100, 105, 114] : List UInt8) then (muslinref18_Attr.j0 k a0 a1 (a1.toList == ([100, 105, 114] : List UInt8))) else (if a1.toList = ([108, 97, 110, 103] : List UInt8) then (muslinref18_Attr.j0 k a0 a1 (a1.toList == ([108, 97, 110, 103] : List UInt8))) else (muslinref18_Attr.j0 k a0 a1 (a1.toList == ([115, 116, 121, 108, 101] : List UInt8)))))) else (some false))
set_option maxHeartbeats 8000000 in
set_option maxRecDepth 100000 in
theorem muslinref18_Attr.calls (k : Nat) (a0 : ByteArray) (a1 : ByteArray) (r : Bool) (w : World) (h : muslinref18_Attr.f k a0 a1 = some r) :
    Calls Tryz.prog 11 #[.string a0, .string a1] w fun e w' => e = .returned (.bool r) ∧ Drawn0 w w' := by
  have H : ((muslinref18_Element.f k a0).bind fun t124 => (if t124 = 2 then (if a1.toList = ([116, 105, 116, 108, 101] : List UInt8) then (muslinref18_Attr.j0 k a0 a1 (a1.toList == ([116, 105, 116, 108, 101] : List UInt8))) else (if a1.toList = ([100, 105, 114] : List UInt8) then (muslinref18_Attr.j0 k a0 a1 (a1.toList == ([100, 105, 114] : List UInt8))) else (if a1.toList = ([108, 97, 110, 103] : List UInt8) then (muslinref18_Attr.j0 k a0 a1 (a1.toList == ([108, 97, 110, 103] : List UInt8))) else (muslinref18_Attr.j0 k a0 a1 (a1.toList == ([115, 116, 121, 108, 101] : List UInt8)))))) else (some false))) = some r := h
  clear h
  replace H := Option.bind_eq_some_iff.mp H
  obtain ⟨t124, A30, H⟩ := H
  replace H : (if t124 = 2 then (if a1.toList = ([116, 105, 116, 108, 101] : List UInt8) then (muslinref18_Attr.j0 k a0 a1 (a1.toList == ([116, 105, 116, 108, 101] : List UInt8))) else (if a1.toList = ([100, 105, 114] : List UInt8) then (muslinref18_Attr.j0 k a0 a1 (a1.toList == ([100, 105, 114] : List UInt8))) else (if a1.toList = ([108, 97, 110, 103] : List UInt8) then (muslinref18_Attr.j0 k a0 a1 (a1.toList == ([108, 97, 110, 103] : List UInt8))) else (muslinref18_Attr.j0 k a0 a1 (a1.toList == ([115, 116, 121, 108, 101] : List UInt8)))))) else (some false)) = some r := H
  have A3 := Aside0.mk A30
  clear A30
  by_cases c4 : t124 = 2
  · rw [if_pos c4] at H
    have c4b0 : (t124 == 2) = true := beq_iff_eq.mpr c4
    have c4b1 : (t124 != 2) = false := bne_eq_false_iff_eq.mpr c4
    clear c4
    have HC5 := Aside0.mk H
    clear H
    go_enter Tryz.func11, Tryz.ntmps11
    go_upto_if 9 with (first | ((with_reducible refine gate_callee (f := 9) rfl ?_); refine goesL_ (some 6) rfl rfl Tryz.func9 (by kernel_rfl) rfl #[.string a0] rfl (by (try simp only [List.map_toArray, List.map_cons, List.map_nil]); first | done | rfl | (simp only [List.length_drop, List.length_take]; rfl)) ?_; (with_reducible refine (muslinref18_Element.calls k a0 t124 _ A3.out).mono ?_); rintro e w' ⟨rfl, ⟨nd, rfl⟩⟩; refine ⟨_, rfl, ?_⟩))
    (try simp only [Act.put, List.setIfInBounds_toArray, List.set_cons_zero, List.set_cons_succ])
    go_cut [9] (fun v9 wc => ∃ (kq : Nat) (x9_4 : Bool), v9 = .bool x9_4 ∧ Aside0 (muslinref18_Attr.j0 kq a0 a1 x9_4 = some r) ∧ Aside0 (kq ≤ k) ∧ Drawn0 w wc)
    case first =>
      have H := HC5.out
      clear HC5
      by_cases c6 : a1.toList = ([116, 105, 116, 108, 101] : List UInt8)
      · rw [if_pos c6] at H
        have c6b0 : (a1.toList == ([116, 105, 116, 108, 101] : List UInt8)) = true := beq_iff_eq.mpr c6
        have c6b1 : (a1.toList != ([116, 105, 116, 108, 101] : List UInt8)) = false := bne_eq_false_iff_eq.mpr c6
        clear c6
        (first | rw [c6b0] | (simp only [i64_w, i32_w]; rw [c6b0]) | skip)
        have H' := Aside0.mk H
        clear H
        go_wp2
        go_meet
        case rel => exact ⟨_, ((a1.toList == ([116, 105, 116, 108, 101] : List UInt8))), (by first | rfl | (simp; done) | (simp [*]; done)), H', ⟨by first | omega | exact Nat.le_refl _⟩, by repeat (first | exact Drawn0.refl _ | apply Drawn0.step)⟩
      · rw [if_neg c6] at H
        have c6b0 : (a1.toList == ([116, 105, 116, 108, 101] : List UInt8)) = false := beq_eq_false_iff_ne.mpr c6
        have c6b1 : (a1.toList != ([116, 105, 116, 108, 101] : List UInt8)) = true := bne_iff_ne.mpr c6
        (first | rw [c6b0] | (simp only [i64_w, i32_w]; rw [c6b0]) | skip)
        by_cases c7 : a1.toList = ([100, 105, 114] : List UInt8)
        · rw [if_pos c7] at H
          have c7b0 : (a1.toList == ([100, 105, 114] : List UInt8)) = true := beq_iff_eq.mpr c7
          have c7b1 : (a1.toList != ([100, 105, 114] : List UInt8)) = false := bne_eq_false_iff_eq.mpr c7
          clear c7
          have H' := Aside0.mk H
          clear H
          go_wp2
          go_meet
          case rel => exact ⟨_, ((a1.toList == ([100, 105, 114] : List UInt8))), (by first | rfl | (simp; done) | (simp [*]; done)), H', ⟨by first | omega | exact Nat.le_refl _⟩, by repeat (first | exact Drawn0.refl _ | apply Drawn0.step)⟩
        · rw [if_neg c7] at H
          have c7b0 : (a1.toList == ([100, 105, 114] : List UInt8)) = false := beq_eq_false_iff_ne.mpr c7
          have c7b1 : (a1.toList != ([100, 105, 114] : List UInt8)) = true := bne_iff_ne.mpr c7
          by_cases c8 : a1.toList = ([108, 97, 110, 103] : List UInt8)
          · rw [if_pos c8] at H
            have c8b0 : (a1.toList == ([108, 97, 110, 103] : List UInt8)) = true := beq_iff_eq.mpr c8
            have c8b1 : (a1.toList != ([108, 97, 110, 103] : List UInt8)) = false := bne_eq_false_iff_eq.mpr c8
            clear c8
            have H' := Aside0.mk H
            clear H
            go_wp2
            go_meet
            case rel => exact ⟨_, ((a1.toList == ([108, 97, 110, 103] : List UInt8))), (by first | rfl | (simp; done) | (simp [*]; done)), H', ⟨by first | omega | exact Nat.le_refl _⟩, by repeat (first | exact Drawn0.refl _ | apply Drawn0.step)⟩
          · rw [if_neg c8] at H
            have c8b0 : (a1.toList == ([108, 97, 110, 103] : List UInt8)) = false := beq_eq_false_iff_ne.mpr c8
            have c8b1 : (a1.toList != ([108, 97, 110, 103] : List UInt8)) = true := bne_iff_ne.mpr c8
            have H' := Aside0.mk H
            clear H
            go_wp2
            go_meet
            case rel => exact ⟨_, ((a1.toList == ([115, 116, 121, 108, 101] : List UInt8))), (by first | rfl | (simp; done) | (simp [*]; done)), H', ⟨by first | omega | exact Nat.le_refl _⟩, by repeat (first | exact Drawn0.refl _ | apply Drawn0.step)⟩
    case rest =>
      clear HC5
      try clear c1
      try clear p2
      try clear c4
      try clear c4b0
      try clear c4b1
      try clear c6
      try clear c6b0
      try clear c6b1
      try clear c7
      try clear c7b0
      try clear c7b1
      try clear c8
      try clear c8b0
      try clear c8b1
      obtain ⟨kq, x9_4, rfl, HA, HJ4, ⟨mc4, rfl⟩⟩ := hcut
      cases kq with
      | zero => exact absurd HA.out (by simp [muslinref18_Attr.j0])
      | succ kj4 =>
        have H := HA.out
        clear HA
        simp only [muslinref18_Attr.j0] at H
        by_cases c9 : x9_4 = true
        · subst c9
          have H1 : (some true) = some r := by rw [if_pos rfl] at H; exact H
          clear H
          have H := H1
          clear H1
          obtain rfl := Option.some.inj H
          go_wp2
          go_ret
          exact ⟨by first | rfl | (simp; done) | (simp [*]; done), by repeat (first | exact Drawn0.refl _ | apply Drawn0.step)⟩
        · replace c9 := Bool.eq_false_iff.mpr c9
          subst c9
          have H1 : (if a1.toList = ([104, 114, 101, 102] : List UInt8) then (some (a0.toList == ([97] : List UInt8))) else (if a1.toList = ([115, 114, 99] : List UInt8) then (muslinref18_Attr.j1 kj4 a0 a1 (a1.toList == ([115, 114, 99] : List UInt8))) else (if a1.toList = ([97, 108, 116] : List UInt8) then (muslinref18_Attr.j1 kj4 a0 a1 (a1.toList == ([97, 108, 116] : List UInt8))) else (if a1.toList = ([119, 105, 100, 116, 104] : List UInt8) then (muslinref18_Attr.j1 kj4 a0 a1 (a1.toList == ([119, 105, 100, 116, 104] : List UInt8))) else (muslinref18_Attr.j1 kj4 a0 a1 (a1.toList == ([104, 101, 105, 103, 104, 116] : List UInt8))))))) = some r := by rw [if_neg (show ¬ (false = true) by decide)] at H; exact H
          clear H
          have H := H1
          clear H1
          by_cases c10 : a1.toList = ([104, 114, 101, 102] : List UInt8)
          · rw [if_pos c10] at H
            have c10b0 : (a1.toList == ([104, 114, 101, 102] : List UInt8)) = true := beq_iff_eq.mpr c10
            have c10b1 : (a1.toList != ([104, 114, 101, 102] : List UInt8)) = false := bne_eq_false_iff_eq.mpr c10
            clear c10
            obtain rfl := Option.some.inj H
            go_wp2
            go_ret
            exact ⟨by first | rfl | (simp; done) | (simp [*]; done), by repeat (first | exact Drawn0.refl _ | apply Drawn0.step)⟩
          · rw [if_neg c10] at H
            have c10b0 : (a1.toList == ([104, 114, 101, 102] : List UInt8)) = false := beq_eq_false_iff_ne.mpr c10
            have c10b1 : (a1.toList != ([104, 114, 101, 102] : List UInt8)) = true := bne_iff_ne.mpr c10
            have HC11 := Aside0.mk H
            clear H
            go_upto_if 18 with (fail)
            go_cut [18] (fun v18 wc => ∃ (kq : Nat) (x18_10 : Bool), v18 = .bool x18_10 ∧ Aside0 (muslinref18_Attr.j1 kq a0 a1 x18_10 = some r) ∧ Aside0 (kq ≤ kj4) ∧ Drawn0 w wc)
            case first =>
              have H := HC11.out
              clear HC11
              by_cases c12 : a1.toList = ([115, 114, 99] : List UInt8)
              · rw [if_pos c12] at H
                have c12b0 : (a1.toList == ([115, 114, 99] : List UInt8)) = true := beq_iff_eq.mpr c12
                have c12b1 : (a1.toList != ([115, 114, 99] : List UInt8)) = false := bne_eq_false_iff_eq.mpr c12
                clear c12
                (first | rw [c12b0] | (simp only [i64_w, i32_w]; rw [c12b0]) | skip)
                have H' := Aside0.mk H
                clear H
                go_wp2
                go_meet
                case rel => exact ⟨_, ((a1.toList == ([115, 114, 99] : List UInt8))), (by first | rfl | (simp; done) | (simp [*]; done)), H', ⟨by have := HJ4.out; first | omega | exact Nat.le_refl _⟩, by repeat (first | exact Drawn0.refl _ | apply Drawn0.step)⟩
              · rw [if_neg c12] at H
                have c12b0 : (a1.toList == ([115, 114, 99] : List UInt8)) = false := beq_eq_false_iff_ne.mpr c12
                have c12b1 : (a1.toList != ([115, 114, 99] : List UInt8)) = true := bne_iff_ne.mpr c12
                (first | rw [c12b0] | (simp only [i64_w, i32_w]; rw [c12b0]) | skip)
                by_cases c13 : a1.toList = ([97, 108, 116] : List UInt8)
                · rw [if_pos c13] at H
                  have c13b0 : (a1.toList == ([97, 108, 116] : List UInt8)) = true := beq_iff_eq.mpr c13
                  have c13b1 : (a1.toList != ([97, 108, 116] : List UInt8)) = false := bne_eq_false_iff_eq.mpr c13
                  clear c13
                  have H' := Aside0.mk H
                  clear H
                  go_wp2
                  go_meet
                  case rel => exact ⟨_, ((a1.toList == ([97, 108, 116] : List UInt8))), (by first | rfl | (simp; done) | (simp [*]; done)), H', ⟨by have := HJ4.out; first | omega | exact Nat.le_refl _⟩, by repeat (first | exact Drawn0.refl _ | apply Drawn0.step)⟩
                · rw [if_neg c13] at H
                  have c13b0 : (a1.toList == ([97, 108, 116] : List UInt8)) = false := beq_eq_false_iff_ne.mpr c13
                  have c13b1 : (a1.toList != ([97, 108, 116] : List UInt8)) = true := bne_iff_ne.mpr c13
                  by_cases c14 : a1.toList = ([119, 105, 100, 116, 104] : List UInt8)
                  · rw [if_pos c14] at H
                    have c14b0 : (a1.toList == ([119, 105, 100, 116, 104] : List UInt8)) = true := beq_iff_eq.mpr c14
                    have c14b1 : (a1.toList != ([119, 105, 100, 116, 104] : List UInt8)) = false := bne_eq_false_iff_eq.mpr c14
                    clear c14
                    have H' := Aside0.mk H
                    clear H
                    go_wp2
                    go_meet
                    case rel => exact ⟨_, ((a1.toList == ([119, 105, 100, 116, 104] : List UInt8))), (by first | rfl | (simp; done) | (simp [*]; done)), H', ⟨by have := HJ4.out; first | omega | exact Nat.le_refl _⟩, by repeat (first | exact Drawn0.refl _ | apply Drawn0.step)⟩
                  · rw [if_neg c14] at H
                    have c14b0 : (a1.toList == ([119, 105, 100, 116, 104] : List UInt8)) = false := beq_eq_false_iff_ne.mpr c14
                    have c14b1 : (a1.toList != ([119, 105, 100, 116, 104] : List UInt8)) = true := bne_iff_ne.mpr c14
                    have H' := Aside0.mk H
                    clear H
                    go_wp2
                    go_meet
                    case rel => exact ⟨_, ((a1.toList == ([104, 101, 105, 103, 104, 116] : List UInt8))), (by first | rfl | (simp; done) | (simp [*]; done)), H', ⟨by have := HJ4.out; first | omega | exact Nat.le_refl _⟩, by repeat (first | exact Drawn0.refl _ | apply Drawn0.step)⟩
            case rest =>
              clear HC11
              try clear c1
              try clear p2
              try clear c4
              try clear c4b0
              try clear c4b1
              try clear c6
              try clear c6b0
              try clear c6b1
              try clear c7
              try clear c7b0
              try clear c7b1
              try clear c8
              try clear c8b0
              try clear c8b1
              try clear c9
              try clear c10
              try clear c10b0
              try clear c10b1
              try clear c11
              try clear c12
              try clear c12b0
              try clear c12b1
              try clear c13
              try clear c13b0
              try clear c13b1
              try clear c14
              try clear c14b0
              try clear c14b1
              try clear p2
              obtain ⟨kq, x18_10, rfl, HA, HJ10, ⟨mc10, rfl⟩⟩ := hcut
              cases kq with
              | zero => exact absurd HA.out (by simp [muslinref18_Attr.j1])
              | succ kj10 =>
                have H := HA.out
                clear HA
                simp only [muslinref18_Attr.j1] at H
                by_cases c15 : x18_10 = true
                · subst c15
                  have H1 : (some (a0.toList == ([105, 109, 103] : List UInt8))) = some r := by rw [if_pos rfl] at H; exact H
                  clear H
                  have H := H1
                  clear H1
                  obtain rfl := Option.some.inj H
                  go_wp2
                  go_ret
                  exact ⟨by first | rfl | (simp; done) | (simp [*]; done), by repeat (first | exact Drawn0.refl _ | apply Drawn0.step)⟩
                · replace c15 := Bool.eq_false_iff.mpr c15
                  subst c15
                  have H1 : (if a1.toList = ([115, 116, 97, 114, 116] : List UInt8) then (some (a0.toList == ([111, 108] : List UInt8))) else (if a1.toList = ([118, 97, 108, 117, 101] : List UInt8) then (some (a0.toList == ([108, 105] : List UInt8))) else (some false))) = some r := by rw [if_neg (show ¬ (false = true) by decide)] at H; exact H
                  clear H
                  have H := H1
                  clear H1
                  by_cases c16 : a1.toList = ([115, 116, 97, 114, 116] : List UInt8)
                  · rw [if_pos c16] at H
                    have c16b0 : (a1.toList == ([115, 116, 97, 114, 116] : List UInt8)) = true := beq_iff_eq.mpr c16
                    have c16b1 : (a1.toList != ([115, 116, 97, 114, 116] : List UInt8)) = false := bne_eq_false_iff_eq.mpr c16
                    clear c16
                    obtain rfl := Option.some.inj H
                    go_wp2
                    go_ret
                    exact ⟨by first | rfl | (simp; done) | (simp [*]; done), by repeat (first | exact Drawn0.refl _ | apply Drawn0.step)⟩
                  · rw [if_neg c16] at H
                    have c16b0 : (a1.toList == ([115, 116, 97, 114, 116] : List UInt8)) = false := beq_eq_false_iff_ne.mpr c16
                    have c16b1 : (a1.toList != ([115, 116, 97, 114, 116] : List UInt8)) = true := bne_iff_ne.mpr c16
                    by_cases c17 : a1.toList = ([118, 97, 108, 117, 101] : List UInt8)
                    · rw [if_pos c17] at H
                      have c17b0 : (a1.toList == ([118, 97, 108, 117, 101] : List UInt8)) = true := beq_iff_eq.mpr c17
                      have c17b1 : (a1.toList != ([118, 97, 108, 117, 101] : List UInt8)) = false := bne_eq_false_iff_eq.mpr c17
                      clear c17
                      obtain rfl := Option.some.inj H
                      go_wp2
                      go_ret
                      exact ⟨by first | rfl | (simp; done) | (simp [*]; done), by repeat (first | exact Drawn0.refl _ | apply Drawn0.step)⟩
                    · rw [if_neg c17] at H
                      have c17b0 : (a1.toList == ([118, 97, 108, 117, 101] : List UInt8)) = false := beq_eq_false_iff_ne.mpr c17
                      have c17b1 : (a1.toList != ([118, 97, 108, 117, 101] : List UInt8)) = true := bne_iff_ne.mpr c17
                      obtain rfl := Option.some.inj H
                      go_wp2
                      go_ret
                      exact ⟨by first | rfl | (simp; done) | (simp [*]; done), by repeat (first | exact Drawn0.refl _ | apply Drawn0.step)⟩
  · rw [if_neg c4] at H
    have c4b0 : (t124 == 2) = false := beq_eq_false_iff_ne.mpr c4
    have c4b1 : (t124 != 2) = true := bne_iff_ne.mpr c4
    obtain rfl := Option.some.inj H
    go_enter Tryz.func11, Tryz.ntmps11
    go_wp2_with (first | ((with_reducible refine gate_callee (f := 9) rfl ?_); refine goesL_ (some 6) rfl rfl Tryz.func9 (by kernel_rfl) rfl #[.string a0] rfl (by (try simp only [List.map_toArray, List.map_cons, List.map_nil]); first | done | rfl | (simp only [List.length_drop, List.length_take]; rfl)) ?_; (with_reducible refine (muslinref18_Element.calls k a0 t124 _ A3.out).mono ?_); rintro e w' ⟨rfl, ⟨nd, rfl⟩⟩; refine ⟨_, rfl, ?_⟩))
    go_ret
    exact ⟨by first | rfl | (simp; done) | (simp [*]; done), by repeat (first | exact Drawn0.refl _ | apply Drawn0.step)⟩
end Go.Proofs.YtchooidhieaphaaGreatDoor.PRulesValues
