/- The document's Kind, walked (a program wrote this text out of the translation): it returns what its plain function says. -/
import Derived.Test.YtchooidhieaphaaGreatDoorQScheme
namespace Go.Proofs.YtchooidhieaphaaGreatDoor.PQ
open Go.RowKit Go.Proofs.YtchooidhieaphaaGreatDoor.PRulesValues Go.Proofs.YtchooidhieaphaaGreatDoorW.PrintWords Go.Proofs.YtchooidhieaphaaGreatDoorW.PrintLast Go.Proofs.YtchooidhieaphaaGreatDoorW.PrintMore
set_option linter.unusedVariables false
set_option linter.unusedSimpArgs false
mutual
def muslinref16_Kind.j0 : Nat → ByteArray → Bool → Option (Int)
  | 0, _, _ => none
  | k + 1, x3, x6 => if x3.toList = ([104, 116, 116, 112] : List UInt8) then (muslinref16_Kind.j1 k x3 x6 x6) else (muslinref16_Kind.j1 k x3 x6 false)
def muslinref16_Kind.j1 : Nat → ByteArray → Bool → Bool → Option (Int)
  | 0, _, _, _ => none
  | k + 1, x3, x6, x65 => if x65 = true then (some 1) else (if x3.toList = ([104, 116, 116, 112, 115] : List UInt8) then (muslinref16_Kind.j2 k x3 x6) else (muslinref16_Kind.j2 k x3 false))
def muslinref16_Kind.j2 : Nat → ByteArray → Bool → Option (Int)
  | 0, _, _ => none
  | k + 1, x3, x71 => if x71 = true then (some 2) else (if x3.toList = ([109, 97, 105, 108, 116, 111] : List UInt8) then (some 3) else (if x3.toList = ([99, 105, 100] : List UInt8) then (some 4) else (some 5)))
end
def muslinref16_Kind.f (k : Nat) (a0 : ByteArray) : Option (Int) := (muslinref16_Scheme.f k a0).bind fun bt113 => (if bt113.2 = true then ((muslinref16_Clean.f k a0).bind fun t115 => (if (t115.size : Int) > (wrap64 ((bt113.1.size : Int) + 3)) then (if 0 ≤ (wrap64 ((bt113.1.size : Int) + 1)) then (if (wrap64 ((bt113.1.size : Int) + 1)) ≤ (wrap64 ((bt113.1.size : Int) + 3)) then (if (wrap64 ((bt113.1.size : Int) + 3)) ≤ (t115.size : Int) then (if (t115.extract ((wrap64 ((bt113.1.size : Int) + 1)) : Int).toNat ((wrap64 ((bt113.1.size : Int) + 3)) : Int).toNat).toList = ([47, 47] : List UInt8) then (if 0 ≤ (wrap64 ((bt113.1.size : Int) + 3)) then (if (wrap64 ((bt113.1.size : Int) + 3)) < (t115.size : Int) then (if (bt t115 (wrap64 ((bt113.1.size : Int) + 3))) = 47 then (muslinref16_Kind.j0 k bt113.1 false) else (if (bt t115 (wrap64 ((bt113.1.size : Int) + 3))) = 63 then (muslinref16_Kind.j0 k bt113.1 false) else (if (bt t115 (wrap64 ((bt113.1.size : Int) + 3))) = 35 then (muslinref16_Kind.j0 k bt113.1 false) else (muslinref16_Kind.j0 k bt113.1 ((bt t115 (wrap64 ((bt113.1.size : Int) + 3))) != 92))))) else (none)) else (none)) else (muslinref16_Kind.j0 k bt113.1 false)) else (none)) else (none)) else (none)) else (muslinref16_Kind.j0 k bt113.1 false))) else (some 0))
set_option maxHeartbeats 8000000 in
set_option maxRecDepth 100000 in
theorem muslinref16_Kind.calls (k : Nat) (a0 : ByteArray) (r : Int) (w : World) (h : muslinref16_Kind.f k a0 = some r) :
    Calls Tryz.prog 30 #[.string a0] w fun e w' => e = .returned (.int .i64 r) ∧ Below w.heap.size w w' := by
  have HB := Aside0.mk (Below.refl w.heap.size w)
  have H : ((muslinref16_Scheme.f k a0).bind fun bt113 => (if bt113.2 = true then ((muslinref16_Clean.f k a0).bind fun t115 => (if (t115.size : Int) > (wrap64 ((bt113.1.size : Int) + 3)) then (if 0 ≤ (wrap64 ((bt113.1.size : Int) + 1)) then (if (wrap64 ((bt113.1.size : Int) + 1)) ≤ (wrap64 ((bt113.1.size : Int) + 3)) then (if (wrap64 ((bt113.1.size : Int) + 3)) ≤ (t115.size : Int) then (if (t115.extract ((wrap64 ((bt113.1.size : Int) + 1)) : Int).toNat ((wrap64 ((bt113.1.size : Int) + 3)) : Int).toNat).toList = ([47, 47] : List UInt8) then (if 0 ≤ (wrap64 ((bt113.1.size : Int) + 3)) then (if (wrap64 ((bt113.1.size : Int) + 3)) < (t115.size : Int) then (if (bt t115 (wrap64 ((bt113.1.size : Int) + 3))) = 47 then (muslinref16_Kind.j0 k bt113.1 false) else (if (bt t115 (wrap64 ((bt113.1.size : Int) + 3))) = 63 then (muslinref16_Kind.j0 k bt113.1 false) else (if (bt t115 (wrap64 ((bt113.1.size : Int) + 3))) = 35 then (muslinref16_Kind.j0 k bt113.1 false) else (muslinref16_Kind.j0 k bt113.1 ((bt t115 (wrap64 ((bt113.1.size : Int) + 3))) != 92))))) else (none)) else (none)) else (muslinref16_Kind.j0 k bt113.1 false)) else (none)) else (none)) else (none)) else (muslinref16_Kind.j0 k bt113.1 false))) else (some 0))) = some r := h
  clear h
  replace H := Option.bind_eq_some_iff.mp H
  obtain ⟨⟨t113, t114⟩, A20, H⟩ := H
  replace H : (if t114 = true then ((muslinref16_Clean.f k a0).bind fun t115 => (if (t115.size : Int) > (wrap64 ((t113.size : Int) + 3)) then (if 0 ≤ (wrap64 ((t113.size : Int) + 1)) then (if (wrap64 ((t113.size : Int) + 1)) ≤ (wrap64 ((t113.size : Int) + 3)) then (if (wrap64 ((t113.size : Int) + 3)) ≤ (t115.size : Int) then (if (t115.extract ((wrap64 ((t113.size : Int) + 1)) : Int).toNat ((wrap64 ((t113.size : Int) + 3)) : Int).toNat).toList = ([47, 47] : List UInt8) then (if 0 ≤ (wrap64 ((t113.size : Int) + 3)) then (if (wrap64 ((t113.size : Int) + 3)) < (t115.size : Int) then (if (bt t115 (wrap64 ((t113.size : Int) + 3))) = 47 then (muslinref16_Kind.j0 k t113 false) else (if (bt t115 (wrap64 ((t113.size : Int) + 3))) = 63 then (muslinref16_Kind.j0 k t113 false) else (if (bt t115 (wrap64 ((t113.size : Int) + 3))) = 35 then (muslinref16_Kind.j0 k t113 false) else (muslinref16_Kind.j0 k t113 ((bt t115 (wrap64 ((t113.size : Int) + 3))) != 92))))) else (none)) else (none)) else (muslinref16_Kind.j0 k t113 false)) else (none)) else (none)) else (none)) else (muslinref16_Kind.j0 k t113 false))) else (some 0)) = some r := H
  have A2 := Aside0.mk A20
  clear A20
  by_cases c3 : t114 = true
  · subst c3
    have H1 : ((muslinref16_Clean.f k a0).bind fun t115 => (if (t115.size : Int) > (wrap64 ((t113.size : Int) + 3)) then (if 0 ≤ (wrap64 ((t113.size : Int) + 1)) then (if (wrap64 ((t113.size : Int) + 1)) ≤ (wrap64 ((t113.size : Int) + 3)) then (if (wrap64 ((t113.size : Int) + 3)) ≤ (t115.size : Int) then (if (t115.extract ((wrap64 ((t113.size : Int) + 1)) : Int).toNat ((wrap64 ((t113.size : Int) + 3)) : Int).toNat).toList = ([47, 47] : List UInt8) then (if 0 ≤ (wrap64 ((t113.size : Int) + 3)) then (if (wrap64 ((t113.size : Int) + 3)) < (t115.size : Int) then (if (bt t115 (wrap64 ((t113.size : Int) + 3))) = 47 then (muslinref16_Kind.j0 k t113 false) else (if (bt t115 (wrap64 ((t113.size : Int) + 3))) = 63 then (muslinref16_Kind.j0 k t113 false) else (if (bt t115 (wrap64 ((t113.size : Int) + 3))) = 35 then (muslinref16_Kind.j0 k t113 false) else (muslinref16_Kind.j0 k t113 ((bt t115 (wrap64 ((t113.size : Int) + 3))) != 92))))) else (none)) else (none)) else (muslinref16_Kind.j0 k t113 false)) else (none)) else (none)) else (none)) else (muslinref16_Kind.j0 k t113 false))) = some r := by rw [if_pos rfl] at H; exact H
    clear H
    have H := H1
    clear H1
    replace H := Option.bind_eq_some_iff.mp H
    obtain ⟨t115, A40, H⟩ := H
    replace H : (if (t115.size : Int) > (wrap64 ((t113.size : Int) + 3)) then (if 0 ≤ (wrap64 ((t113.size : Int) + 1)) then (if (wrap64 ((t113.size : Int) + 1)) ≤ (wrap64 ((t113.size : Int) + 3)) then (if (wrap64 ((t113.size : Int) + 3)) ≤ (t115.size : Int) then (if (t115.extract ((wrap64 ((t113.size : Int) + 1)) : Int).toNat ((wrap64 ((t113.size : Int) + 3)) : Int).toNat).toList = ([47, 47] : List UInt8) then (if 0 ≤ (wrap64 ((t113.size : Int) + 3)) then (if (wrap64 ((t113.size : Int) + 3)) < (t115.size : Int) then (if (bt t115 (wrap64 ((t113.size : Int) + 3))) = 47 then (muslinref16_Kind.j0 k t113 false) else (if (bt t115 (wrap64 ((t113.size : Int) + 3))) = 63 then (muslinref16_Kind.j0 k t113 false) else (if (bt t115 (wrap64 ((t113.size : Int) + 3))) = 35 then (muslinref16_Kind.j0 k t113 false) else (muslinref16_Kind.j0 k t113 ((bt t115 (wrap64 ((t113.size : Int) + 3))) != 92))))) else (none)) else (none)) else (muslinref16_Kind.j0 k t113 false)) else (none)) else (none)) else (none)) else (muslinref16_Kind.j0 k t113 false)) = some r := H
    have A4 := Aside0.mk A40
    clear A40
    have HC5 := Aside0.mk H
    clear H
    go_enter Tryz.func30, Tryz.ntmps30
    go_upto_region 5 with (first | ((with_reducible refine gate_callee (f := 47) rfl ?_); refine goesL_ (some 9) rfl rfl Tryz.func47 (by kernel_rfl) rfl #[.string a0] rfl (by (try simp only [List.map_toArray, List.map_cons, List.map_nil]); first | done | rfl | (simp only [List.length_drop, List.length_take]; rfl)) ?_; (with_reducible refine (muslinref16_Scheme.calls k a0 t113 true _ A2.out).mono ?_); rintro e w6 ⟨rfl, hb⟩; refine ⟨_, rfl, ?_⟩; have n0_ := Aside0.mk (below_step (by repeat (first | (with_reducible first | exact HB.out | apply below_alloc | apply pw_below_drewN | apply below_drew1) | exact HB.out)) hb); clear HB; have HB := n0_; clear n0_; (try clear hb); (try clear hb2); (try clear hk); (try clear hi)) | ((with_reducible refine gate_callee (f := 32) rfl ?_); refine goesL_ (some 15) rfl rfl Tryz.func32 (by kernel_rfl) rfl #[.string a0] rfl (by (try simp only [List.map_toArray, List.map_cons, List.map_nil]); first | done | rfl | (simp only [List.length_drop, List.length_take]; rfl)) ?_; (with_reducible refine (muslinref16_Clean.calls k a0 t115 _ A4.out).mono ?_); rintro e w7 ⟨rfl, hb⟩; refine ⟨_, rfl, ?_⟩; have n0_ := Aside0.mk (below_step (by repeat (first | (with_reducible first | exact HB.out | apply below_alloc | apply pw_below_drewN | apply below_drew1) | exact HB.out)) hb); clear HB; have HB := n0_; clear n0_; (try clear hb); (try clear hb2); (try clear hk); (try clear hi)))
    (try simp only [Act.put, List.setIfInBounds_toArray, List.set_cons_zero, List.set_cons_succ])
    go_cut [6] (fun v6 wc => ∃ (kq : Nat) (x6_4 : Bool), v6 = .bool x6_4 ∧ Aside0 (muslinref16_Kind.j0 kq t113 x6_4 = some r) ∧ Aside0 (kq ≤ k) ∧ Aside0 (Below w.heap.size w wc))
    case first =>
      have H := HC5.out
      clear HC5
      by_cases c8 : (t115.size : Int) > (wrap64 ((t113.size : Int) + 3))
      · rw [if_pos c8] at H
        have c8b0 : decide ((wrap64 ((t113.size : Int) + 3)) < (t115.size : Int)) = true := decide_eq_true c8
        clear c8
        (first | rw [c8b0] | (simp only [i64_w, i32_w]; rw [c8b0]) | skip)
        obtain ⟨ji9, hji9⟩ : ∃ j_ : Int, (wrap64 ((t113.size : Int) + 1)) = j_ := ⟨_, rfl⟩
        replace H : (if 0 ≤ (ji9) then (if (ji9) ≤ (wrap64 ((t113.size : Int) + 3)) then (if (wrap64 ((t113.size : Int) + 3)) ≤ (t115.size : Int) then (if (t115.extract ((ji9) : Int).toNat ((wrap64 ((t113.size : Int) + 3)) : Int).toNat).toList = ([47, 47] : List UInt8) then (if 0 ≤ (wrap64 ((t113.size : Int) + 3)) then (if (wrap64 ((t113.size : Int) + 3)) < (t115.size : Int) then (if (bt t115 (wrap64 ((t113.size : Int) + 3))) = 47 then (muslinref16_Kind.j0 k t113 false) else (if (bt t115 (wrap64 ((t113.size : Int) + 3))) = 63 then (muslinref16_Kind.j0 k t113 false) else (if (bt t115 (wrap64 ((t113.size : Int) + 3))) = 35 then (muslinref16_Kind.j0 k t113 false) else (muslinref16_Kind.j0 k t113 ((bt t115 (wrap64 ((t113.size : Int) + 3))) != 92))))) else (none)) else (none)) else (muslinref16_Kind.j0 k t113 false)) else (none)) else (none)) else (none)) = some r := by first | (rw [hji9] at H; exact H) | (simp only [hji9] at H ⊢; exact H)
        have hji9w : (IntKind.i64.wrap ((t113.size : Int) + 1)) = ji9 := (i64_w _).trans hji9
        by_cases c10 : 0 ≤ (ji9)
        · rw [if_pos c10] at H
          have c10b0 := eq_true c10
          have c10b1 : decide (0 ≤ (ji9)) = true := decide_eq_true c10
          clear c10
          by_cases c11 : (ji9) ≤ (wrap64 ((t113.size : Int) + 3))
          · rw [if_pos c11] at H
            have c11b0 := eq_true c11
            have c11b1 : decide ((ji9) ≤ (wrap64 ((t113.size : Int) + 3))) = true := decide_eq_true c11
            by_cases c12 : (wrap64 ((t113.size : Int) + 3)) ≤ (t115.size : Int)
            · rw [if_pos c12] at H
              have c12b0 := eq_true c12
              have c12b1 : decide ((wrap64 ((t113.size : Int) + 3)) ≤ (t115.size : Int)) = true := decide_eq_true c12
              by_cases c13 : (t115.extract ((ji9) : Int).toNat ((wrap64 ((t113.size : Int) + 3)) : Int).toNat).toList = ([47, 47] : List UInt8)
              · rw [if_pos c13] at H
                have c13b0 : ((t115.extract ((ji9) : Int).toNat ((wrap64 ((t113.size : Int) + 3)) : Int).toNat).toList == ([47, 47] : List UInt8)) = true := beq_iff_eq.mpr c13
                have c13b1 : ((t115.extract ((ji9) : Int).toNat ((wrap64 ((t113.size : Int) + 3)) : Int).toNat).toList != ([47, 47] : List UInt8)) = false := bne_eq_false_iff_eq.mpr c13
                clear c13
                obtain ⟨ji14, hji14⟩ : ∃ j_ : Int, (wrap64 ((t113.size : Int) + 3)) = j_ := ⟨_, rfl⟩
                replace H : (if 0 ≤ (ji14) then (if (ji14) < (t115.size : Int) then (if (bt t115 (ji14)) = 47 then (muslinref16_Kind.j0 k t113 false) else (if (bt t115 (ji14)) = 63 then (muslinref16_Kind.j0 k t113 false) else (if (bt t115 (ji14)) = 35 then (muslinref16_Kind.j0 k t113 false) else (muslinref16_Kind.j0 k t113 ((bt t115 (ji14)) != 92))))) else (none)) else (none)) = some r := by first | (rw [hji14] at H; exact H) | (simp only [hji14] at H ⊢; exact H)
                (try rw [hji14] at c8b0)
                (try rw [hji14] at c11b0)
                (try rw [hji14] at c11b1)
                (try rw [hji14] at c11)
                (try rw [hji14] at c12b0)
                (try rw [hji14] at c12b1)
                (try rw [hji14] at c12)
                (try rw [hji14] at c13b0)
                (try rw [hji14] at c13b1)
                have hji14w : (IntKind.i64.wrap ((t113.size : Int) + 3)) = ji14 := (i64_w _).trans hji14
                by_cases c15 : 0 ≤ (ji14)
                · rw [if_pos c15] at H
                  have c15b0 : decide (0 ≤ (ji14)) = true := decide_eq_true c15
                  clear c15
                  by_cases c16 : (ji14) < (t115.size : Int)
                  · rw [if_pos c16] at H
                    have c16b0 : decide ((ji14) < (t115.size : Int)) = true := decide_eq_true c16
                    clear c16
                    by_cases c18 : (bt t115 (ji14)) = 47
                    · rw [if_pos c18] at H
                      have c18b0 : ((bt t115 (ji14)) == 47) = true := beq_iff_eq.mpr c18
                      have c18b1 : ((bt t115 (ji14)) != 47) = false := bne_eq_false_iff_eq.mpr c18
                      clear c18
                      have H' := Aside0.mk H
                      clear H
                      have p17 : 0 ≤ ((ji14) : Int) := of_decide_eq_true (by first | (with_reducible assumption) | assumption)
                      have q17 : (ji14) < (t115.size : Int) := of_decide_eq_true (by first | (with_reducible assumption) | assumption)
                      have hx17 := bt_at t115 (ji14)
                      replace p17 := eq_true p17
                      replace q17 := eq_true q17
                      go_wp2
                      go_meet
                      case rel => exact ⟨_, (false), (by first | rfl | (simp; done) | (simp [*]; done)), H', ⟨by first | omega | exact Nat.le_refl _⟩, ⟨by repeat (first | (with_reducible first | exact HB.out | apply below_alloc | apply pw_below_drewN | apply below_drew1) | exact HB.out)⟩⟩
                    · rw [if_neg c18] at H
                      have c18b0 : ((bt t115 (ji14)) == 47) = false := beq_eq_false_iff_ne.mpr c18
                      have c18b1 : ((bt t115 (ji14)) != 47) = true := bne_iff_ne.mpr c18
                      by_cases c20 : (bt t115 (ji14)) = 63
                      · rw [if_pos c20] at H
                        have c20b0 : ((bt t115 (ji14)) == 63) = true := beq_iff_eq.mpr c20
                        have c20b1 : ((bt t115 (ji14)) != 63) = false := bne_eq_false_iff_eq.mpr c20
                        clear c20
                        have H' := Aside0.mk H
                        clear H
                        have p17 : 0 ≤ ((ji14) : Int) := of_decide_eq_true (by first | (with_reducible assumption) | assumption)
                        have q17 : (ji14) < (t115.size : Int) := of_decide_eq_true (by first | (with_reducible assumption) | assumption)
                        have hx17 := bt_at t115 (ji14)
                        replace p17 := eq_true p17
                        replace q17 := eq_true q17
                        have p19 : 0 ≤ ((ji14) : Int) := of_decide_eq_true (by first | (with_reducible assumption) | assumption)
                        have q19 : (ji14) < (t115.size : Int) := of_decide_eq_true (by first | (with_reducible assumption) | assumption)
                        have hx19 := bt_at t115 (ji14)
                        replace p19 := eq_true p19
                        replace q19 := eq_true q19
                        go_wp2
                        go_meet
                        case rel => exact ⟨_, (false), (by first | rfl | (simp; done) | (simp [*]; done)), H', ⟨by first | omega | exact Nat.le_refl _⟩, ⟨by repeat (first | (with_reducible first | exact HB.out | apply below_alloc | apply pw_below_drewN | apply below_drew1) | exact HB.out)⟩⟩
                      · rw [if_neg c20] at H
                        have c20b0 : ((bt t115 (ji14)) == 63) = false := beq_eq_false_iff_ne.mpr c20
                        have c20b1 : ((bt t115 (ji14)) != 63) = true := bne_iff_ne.mpr c20
                        by_cases c22 : (bt t115 (ji14)) = 35
                        · rw [if_pos c22] at H
                          have c22b0 : ((bt t115 (ji14)) == 35) = true := beq_iff_eq.mpr c22
                          have c22b1 : ((bt t115 (ji14)) != 35) = false := bne_eq_false_iff_eq.mpr c22
                          clear c22
                          have H' := Aside0.mk H
                          clear H
                          have p17 : 0 ≤ ((ji14) : Int) := of_decide_eq_true (by first | (with_reducible assumption) | assumption)
                          have q17 : (ji14) < (t115.size : Int) := of_decide_eq_true (by first | (with_reducible assumption) | assumption)
                          have hx17 := bt_at t115 (ji14)
                          replace p17 := eq_true p17
                          replace q17 := eq_true q17
                          have p19 : 0 ≤ ((ji14) : Int) := of_decide_eq_true (by first | (with_reducible assumption) | assumption)
                          have q19 : (ji14) < (t115.size : Int) := of_decide_eq_true (by first | (with_reducible assumption) | assumption)
                          have hx19 := bt_at t115 (ji14)
                          replace p19 := eq_true p19
                          replace q19 := eq_true q19
                          have p21 : 0 ≤ ((ji14) : Int) := of_decide_eq_true (by first | (with_reducible assumption) | assumption)
                          have q21 : (ji14) < (t115.size : Int) := of_decide_eq_true (by first | (with_reducible assumption) | assumption)
                          have hx21 := bt_at t115 (ji14)
                          replace p21 := eq_true p21
                          replace q21 := eq_true q21
                          go_wp2
                          go_meet
                          case rel => exact ⟨_, (false), (by first | rfl | (simp; done) | (simp [*]; done)), H', ⟨by first | omega | exact Nat.le_refl _⟩, ⟨by repeat (first | (with_reducible first | exact HB.out | apply below_alloc | apply pw_below_drewN | apply below_drew1) | exact HB.out)⟩⟩
                        · rw [if_neg c22] at H
                          have c22b0 : ((bt t115 (ji14)) == 35) = false := beq_eq_false_iff_ne.mpr c22
                          have c22b1 : ((bt t115 (ji14)) != 35) = true := bne_iff_ne.mpr c22
                          have H' := Aside0.mk H
                          clear H
                          have p17 : 0 ≤ ((ji14) : Int) := of_decide_eq_true (by first | (with_reducible assumption) | assumption)
                          have q17 : (ji14) < (t115.size : Int) := of_decide_eq_true (by first | (with_reducible assumption) | assumption)
                          have hx17 := bt_at t115 (ji14)
                          replace p17 := eq_true p17
                          replace q17 := eq_true q17
                          have p19 : 0 ≤ ((ji14) : Int) := of_decide_eq_true (by first | (with_reducible assumption) | assumption)
                          have q19 : (ji14) < (t115.size : Int) := of_decide_eq_true (by first | (with_reducible assumption) | assumption)
                          have hx19 := bt_at t115 (ji14)
                          replace p19 := eq_true p19
                          replace q19 := eq_true q19
                          have p21 : 0 ≤ ((ji14) : Int) := of_decide_eq_true (by first | (with_reducible assumption) | assumption)
                          have q21 : (ji14) < (t115.size : Int) := of_decide_eq_true (by first | (with_reducible assumption) | assumption)
                          have hx21 := bt_at t115 (ji14)
                          replace p21 := eq_true p21
                          replace q21 := eq_true q21
                          have p23 : 0 ≤ ((ji14) : Int) := of_decide_eq_true (by first | (with_reducible assumption) | assumption)
                          have q23 : (ji14) < (t115.size : Int) := of_decide_eq_true (by first | (with_reducible assumption) | assumption)
                          have hx23 := bt_at t115 (ji14)
                          replace p23 := eq_true p23
                          replace q23 := eq_true q23
                          go_wp2
                          go_meet
                          case rel => exact ⟨_, (((bt t115 (ji14)) != 92)), (by first | rfl | (simp; done) | (simp only [← hji14] <;> (first | rfl | simp)) | (simp [*]; done)), H', ⟨by first | omega | exact Nat.le_refl _⟩, ⟨by repeat (first | (with_reducible first | exact HB.out | apply below_alloc | apply pw_below_drewN | apply below_drew1) | exact HB.out)⟩⟩
                  · rw [if_neg c16] at H
                    exact absurd H (by simp)
                · rw [if_neg c15] at H
                  exact absurd H (by simp)
              · rw [if_neg c13] at H
                have c13b0 : ((t115.extract ((ji9) : Int).toNat ((wrap64 ((t113.size : Int) + 3)) : Int).toNat).toList == ([47, 47] : List UInt8)) = false := beq_eq_false_iff_ne.mpr c13
                have c13b1 : ((t115.extract ((ji9) : Int).toNat ((wrap64 ((t113.size : Int) + 3)) : Int).toNat).toList != ([47, 47] : List UInt8)) = true := bne_iff_ne.mpr c13
                have H' := Aside0.mk H
                clear H
                go_wp2
                go_meet
                case rel => exact ⟨_, (false), (by first | rfl | (simp; done) | (simp [*]; done)), H', ⟨by first | omega | exact Nat.le_refl _⟩, ⟨by repeat (first | (with_reducible first | exact HB.out | apply below_alloc | apply pw_below_drewN | apply below_drew1) | exact HB.out)⟩⟩
            · rw [if_neg c12] at H
              exact absurd H (by simp)
          · rw [if_neg c11] at H
            exact absurd H (by simp)
        · rw [if_neg c10] at H
          exact absurd H (by simp)
      · rw [if_neg c8] at H
        have c8b0 : decide ((wrap64 ((t113.size : Int) + 3)) < (t115.size : Int)) = false := decide_eq_false c8
        clear c8
        (first | rw [c8b0] | (simp only [i64_w, i32_w]; rw [c8b0]) | skip)
        have H' := Aside0.mk H
        clear H
        go_wp2
        go_meet
        case rel => exact ⟨_, (false), (by first | rfl | (simp; done) | (simp [*]; done)), H', ⟨by first | omega | exact Nat.le_refl _⟩, ⟨by repeat (first | (with_reducible first | exact HB.out | apply below_alloc | apply pw_below_drewN | apply below_drew1) | exact HB.out)⟩⟩
    case rest =>
      clear HC5
      try clear c1
      try clear p1
      try clear q1
      try clear hx1
      try clear c2
      try clear p2
      try clear q2
      try clear hx2
      try clear c3
      try clear c4
      try clear p6
      try clear c8
      try clear c8b0
      try clear c10
      try clear c10b0
      try clear c10b1
      try clear c11
      try clear c11b0
      try clear c11b1
      try clear c12
      try clear c12b0
      try clear c12b1
      try clear c13
      try clear c13b0
      try clear c13b1
      try clear c15
      try clear c15b0
      try clear c16
      try clear c16b0
      try clear p17
      try clear q17
      try clear hx17
      try clear c18
      try clear c18b0
      try clear c18b1
      try clear p19
      try clear q19
      try clear hx19
      try clear c20
      try clear c20b0
      try clear c20b1
      try clear p21
      try clear q21
      try clear hx21
      try clear c22
      try clear c22b0
      try clear c22b1
      try clear p23
      try clear q23
      try clear hx23
      try clear p17
      try clear p19
      try clear p21
      try clear p23
      try clear q17
      try clear q19
      try clear q21
      try clear q23
      obtain ⟨kq, x6_4, rfl, HA, HJ4, HB⟩ := hcut
      cases kq with
      | zero => exact absurd HA.out (by simp [muslinref16_Kind.j0])
      | succ kj4 =>
        have H := HA.out
        clear HA
        simp only [muslinref16_Kind.j0] at H
        have HC24 := Aside0.mk H
        clear H
        go_upto_region 6 with (fail)
        go_cut [65] (fun v65 wc => ∃ (kq : Nat) (x65_23 : Bool), v65 = .bool x65_23 ∧ Aside0 (muslinref16_Kind.j1 kq t113 x6_4 x65_23 = some r) ∧ Aside0 (kq ≤ kj4) ∧ Aside0 (Below w.heap.size w wc))
        case first =>
          have H := HC24.out
          clear HC24
          by_cases c25 : t113.toList = ([104, 116, 116, 112] : List UInt8)
          · rw [if_pos c25] at H
            have c25b0 : (t113.toList == ([104, 116, 116, 112] : List UInt8)) = true := beq_iff_eq.mpr c25
            have c25b1 : (t113.toList != ([104, 116, 116, 112] : List UInt8)) = false := bne_eq_false_iff_eq.mpr c25
            clear c25
            (first | rw [c25b0] | (simp only [i64_w, i32_w]; rw [c25b0]) | skip)
            have H' := Aside0.mk H
            clear H
            go_wp2
            go_meet
            case rel => exact ⟨_, (x6_4), (by first | rfl | (simp; done) | (simp [*]; done)), H', ⟨by have := HJ4.out; first | omega | exact Nat.le_refl _⟩, ⟨by repeat (first | (with_reducible first | exact HB.out | apply below_alloc | apply pw_below_drewN | apply below_drew1) | exact HB.out)⟩⟩
          · rw [if_neg c25] at H
            have c25b0 : (t113.toList == ([104, 116, 116, 112] : List UInt8)) = false := beq_eq_false_iff_ne.mpr c25
            have c25b1 : (t113.toList != ([104, 116, 116, 112] : List UInt8)) = true := bne_iff_ne.mpr c25
            (first | rw [c25b0] | (simp only [i64_w, i32_w]; rw [c25b0]) | skip)
            have H' := Aside0.mk H
            clear H
            go_wp2
            go_meet
            case rel => exact ⟨_, (false), (by first | rfl | (simp; done) | (simp [*]; done)), H', ⟨by have := HJ4.out; first | omega | exact Nat.le_refl _⟩, ⟨by repeat (first | (with_reducible first | exact HB.out | apply below_alloc | apply pw_below_drewN | apply below_drew1) | exact HB.out)⟩⟩
        case rest =>
          clear HC24
          try clear c1
          try clear p1
          try clear q1
          try clear hx1
          try clear c2
          try clear p2
          try clear q2
          try clear hx2
          try clear c3
          try clear c4
          try clear p6
          try clear c8
          try clear c8b0
          try clear c10
          try clear c10b0
          try clear c10b1
          try clear c11
          try clear c11b0
          try clear c11b1
          try clear c12
          try clear c12b0
          try clear c12b1
          try clear c13
          try clear c13b0
          try clear c13b1
          try clear c15
          try clear c15b0
          try clear c16
          try clear c16b0
          try clear p17
          try clear q17
          try clear hx17
          try clear c18
          try clear c18b0
          try clear c18b1
          try clear p19
          try clear q19
          try clear hx19
          try clear c20
          try clear c20b0
          try clear c20b1
          try clear p21
          try clear q21
          try clear hx21
          try clear c22
          try clear c22b0
          try clear c22b1
          try clear p23
          try clear q23
          try clear hx23
          try clear c25
          try clear c25b0
          try clear c25b1
          try clear p1
          try clear p17
          try clear p19
          try clear p2
          try clear p21
          try clear p23
          try clear p6
          try clear q1
          try clear q17
          try clear q19
          try clear q2
          try clear q21
          try clear q23
          obtain ⟨kq, x65_23, rfl, HA, HJ23, HB⟩ := hcut
          cases kq with
          | zero => exact absurd HA.out (by simp [muslinref16_Kind.j1])
          | succ kj23 =>
            have H := HA.out
            clear HA
            simp only [muslinref16_Kind.j1] at H
            by_cases c26 : x65_23 = true
            · subst c26
              have H1 : (some 1) = some r := by rw [if_pos rfl] at H; exact H
              clear H
              have H := H1
              clear H1
              obtain rfl := Option.some.inj H
              go_wp2
              go_ret
              exact ⟨by first | rfl | (simp [errW_none, errW_some] <;> rfl) | (simp [*, errW_none, errW_some] <;> rfl), by repeat (first | (with_reducible first | exact HB.out | apply below_alloc | apply pw_below_drewN | apply below_drew1) | exact HB.out)⟩
            · replace c26 := Bool.eq_false_iff.mpr c26
              subst c26
              have H1 : (if t113.toList = ([104, 116, 116, 112, 115] : List UInt8) then (muslinref16_Kind.j2 kj23 t113 x6_4) else (muslinref16_Kind.j2 kj23 t113 false)) = some r := by rw [if_neg (show ¬ (false = true) by decide)] at H; exact H
              clear H
              have H := H1
              clear H1
              have HC27 := Aside0.mk H
              clear H
              go_upto_region 8 with (fail)
              go_cut [71] (fun v71 wc => ∃ (kq : Nat) (x71_26 : Bool), v71 = .bool x71_26 ∧ Aside0 (muslinref16_Kind.j2 kq t113 x71_26 = some r) ∧ Aside0 (kq ≤ kj23) ∧ Aside0 (Below w.heap.size w wc))
              case first =>
                have H := HC27.out
                clear HC27
                by_cases c28 : t113.toList = ([104, 116, 116, 112, 115] : List UInt8)
                · rw [if_pos c28] at H
                  have c28b0 : (t113.toList == ([104, 116, 116, 112, 115] : List UInt8)) = true := beq_iff_eq.mpr c28
                  have c28b1 : (t113.toList != ([104, 116, 116, 112, 115] : List UInt8)) = false := bne_eq_false_iff_eq.mpr c28
                  clear c28
                  (first | rw [c28b0] | (simp only [i64_w, i32_w]; rw [c28b0]) | skip)
                  have H' := Aside0.mk H
                  clear H
                  go_wp2
                  go_meet
                  case rel => exact ⟨_, (x6_4), (by first | rfl | (simp; done) | (simp [*]; done)), H', ⟨by have := HJ4.out; have := HJ23.out; first | omega | exact Nat.le_refl _⟩, ⟨by repeat (first | (with_reducible first | exact HB.out | apply below_alloc | apply pw_below_drewN | apply below_drew1) | exact HB.out)⟩⟩
                · rw [if_neg c28] at H
                  have c28b0 : (t113.toList == ([104, 116, 116, 112, 115] : List UInt8)) = false := beq_eq_false_iff_ne.mpr c28
                  have c28b1 : (t113.toList != ([104, 116, 116, 112, 115] : List UInt8)) = true := bne_iff_ne.mpr c28
                  (first | rw [c28b0] | (simp only [i64_w, i32_w]; rw [c28b0]) | skip)
                  have H' := Aside0.mk H
                  clear H
                  go_wp2
                  go_meet
                  case rel => exact ⟨_, (false), (by first | rfl | (simp; done) | (simp [*]; done)), H', ⟨by have := HJ4.out; have := HJ23.out; first | omega | exact Nat.le_refl _⟩, ⟨by repeat (first | (with_reducible first | exact HB.out | apply below_alloc | apply pw_below_drewN | apply below_drew1) | exact HB.out)⟩⟩
              case rest =>
                clear HC27
                try clear c1
                try clear p1
                try clear q1
                try clear hx1
                try clear c2
                try clear p2
                try clear q2
                try clear hx2
                try clear c3
                try clear c4
                try clear p6
                try clear c8
                try clear c8b0
                try clear c10
                try clear c10b0
                try clear c10b1
                try clear c11
                try clear c11b0
                try clear c11b1
                try clear c12
                try clear c12b0
                try clear c12b1
                try clear c13
                try clear c13b0
                try clear c13b1
                try clear c15
                try clear c15b0
                try clear c16
                try clear c16b0
                try clear p17
                try clear q17
                try clear hx17
                try clear c18
                try clear c18b0
                try clear c18b1
                try clear p19
                try clear q19
                try clear hx19
                try clear c20
                try clear c20b0
                try clear c20b1
                try clear p21
                try clear q21
                try clear hx21
                try clear c22
                try clear c22b0
                try clear c22b1
                try clear p23
                try clear q23
                try clear hx23
                try clear c25
                try clear c25b0
                try clear c25b1
                try clear c26
                try clear c28
                try clear c28b0
                try clear c28b1
                try clear p1
                try clear p17
                try clear p19
                try clear p2
                try clear p21
                try clear p23
                try clear p6
                try clear q1
                try clear q17
                try clear q19
                try clear q2
                try clear q21
                try clear q23
                obtain ⟨kq, x71_26, rfl, HA, HJ26, HB⟩ := hcut
                cases kq with
                | zero => exact absurd HA.out (by simp [muslinref16_Kind.j2])
                | succ kj26 =>
                  have H := HA.out
                  clear HA
                  simp only [muslinref16_Kind.j2] at H
                  by_cases c29 : x71_26 = true
                  · subst c29
                    have H1 : (some 2) = some r := by rw [if_pos rfl] at H; exact H
                    clear H
                    have H := H1
                    clear H1
                    obtain rfl := Option.some.inj H
                    go_wp2
                    go_ret
                    exact ⟨by first | rfl | (simp [errW_none, errW_some] <;> rfl) | (simp [*, errW_none, errW_some] <;> rfl), by repeat (first | (with_reducible first | exact HB.out | apply below_alloc | apply pw_below_drewN | apply below_drew1) | exact HB.out)⟩
                  · replace c29 := Bool.eq_false_iff.mpr c29
                    subst c29
                    have H1 : (if t113.toList = ([109, 97, 105, 108, 116, 111] : List UInt8) then (some 3) else (if t113.toList = ([99, 105, 100] : List UInt8) then (some 4) else (some 5))) = some r := by rw [if_neg (show ¬ (false = true) by decide)] at H; exact H
                    clear H
                    have H := H1
                    clear H1
                    by_cases c30 : t113.toList = ([109, 97, 105, 108, 116, 111] : List UInt8)
                    · rw [if_pos c30] at H
                      have c30b0 : (t113.toList == ([109, 97, 105, 108, 116, 111] : List UInt8)) = true := beq_iff_eq.mpr c30
                      have c30b1 : (t113.toList != ([109, 97, 105, 108, 116, 111] : List UInt8)) = false := bne_eq_false_iff_eq.mpr c30
                      clear c30
                      obtain rfl := Option.some.inj H
                      go_wp2
                      go_ret
                      exact ⟨by first | rfl | (simp [errW_none, errW_some] <;> rfl) | (simp [*, errW_none, errW_some] <;> rfl), by repeat (first | (with_reducible first | exact HB.out | apply below_alloc | apply pw_below_drewN | apply below_drew1) | exact HB.out)⟩
                    · rw [if_neg c30] at H
                      have c30b0 : (t113.toList == ([109, 97, 105, 108, 116, 111] : List UInt8)) = false := beq_eq_false_iff_ne.mpr c30
                      have c30b1 : (t113.toList != ([109, 97, 105, 108, 116, 111] : List UInt8)) = true := bne_iff_ne.mpr c30
                      by_cases c31 : t113.toList = ([99, 105, 100] : List UInt8)
                      · rw [if_pos c31] at H
                        have c31b0 : (t113.toList == ([99, 105, 100] : List UInt8)) = true := beq_iff_eq.mpr c31
                        have c31b1 : (t113.toList != ([99, 105, 100] : List UInt8)) = false := bne_eq_false_iff_eq.mpr c31
                        clear c31
                        obtain rfl := Option.some.inj H
                        go_wp2
                        go_ret
                        exact ⟨by first | rfl | (simp [errW_none, errW_some] <;> rfl) | (simp [*, errW_none, errW_some] <;> rfl), by repeat (first | (with_reducible first | exact HB.out | apply below_alloc | apply pw_below_drewN | apply below_drew1) | exact HB.out)⟩
                      · rw [if_neg c31] at H
                        have c31b0 : (t113.toList == ([99, 105, 100] : List UInt8)) = false := beq_eq_false_iff_ne.mpr c31
                        have c31b1 : (t113.toList != ([99, 105, 100] : List UInt8)) = true := bne_iff_ne.mpr c31
                        obtain rfl := Option.some.inj H
                        go_wp2
                        go_ret
                        exact ⟨by first | rfl | (simp [errW_none, errW_some] <;> rfl) | (simp [*, errW_none, errW_some] <;> rfl), by repeat (first | (with_reducible first | exact HB.out | apply below_alloc | apply pw_below_drewN | apply below_drew1) | exact HB.out)⟩
  · replace c3 := Bool.eq_false_iff.mpr c3
    subst c3
    have H1 : (some 0) = some r := by rw [if_neg (show ¬ (false = true) by decide)] at H; exact H
    clear H
    have H := H1
    clear H1
    obtain rfl := Option.some.inj H
    go_enter Tryz.func30, Tryz.ntmps30
    go_wp2_with (first | ((with_reducible refine gate_callee (f := 47) rfl ?_); refine goesL_ (some 9) rfl rfl Tryz.func47 (by kernel_rfl) rfl #[.string a0] rfl (by (try simp only [List.map_toArray, List.map_cons, List.map_nil]); first | done | rfl | (simp only [List.length_drop, List.length_take]; rfl)) ?_; (with_reducible refine (muslinref16_Scheme.calls k a0 t113 false _ A2.out).mono ?_); rintro e w32 ⟨rfl, hb⟩; refine ⟨_, rfl, ?_⟩; have n0_ := Aside0.mk (below_step (by repeat (first | (with_reducible first | exact HB.out | apply below_alloc | apply pw_below_drewN | apply below_drew1) | exact HB.out)) hb); clear HB; have HB := n0_; clear n0_; (try clear hb); (try clear hb2); (try clear hk); (try clear hi)))
    go_ret
    exact ⟨by first | rfl | (simp [errW_none, errW_some] <;> rfl) | (simp [*, errW_none, errW_some] <;> rfl), by repeat (first | (with_reducible first | exact HB.out | apply below_alloc | apply pw_below_drewN | apply below_drew1) | exact HB.out)⟩
end Go.Proofs.YtchooidhieaphaaGreatDoor.PQ
