/- The document's Clean of styles, walked (a program wrote this text out of the translation): it returns what its plain function says. -/
import Derived.Test.YtchooidhieaphaaGreatDoorQCut
import Derived.Test.YtchooidhieaphaaGreatDoorR9
namespace Go.Proofs.YtchooidhieaphaaGreatDoor.PQ
open Go.RowKit Go.Proofs.YtchooidhieaphaaGreatDoor.PRulesValues Go.Proofs.YtchooidhieaphaaGreatDoorW.PrintWords Go.Proofs.YtchooidhieaphaaGreatDoorW.PrintLast Go.Proofs.YtchooidhieaphaaGreatDoorW.PrintMore
set_option linter.unusedVariables false
set_option linter.unusedSimpArgs false
theorem lit2a : (⟨#[58, 32]⟩ : ByteArray).size = 2 := rfl
theorem lit2b : (⟨#[59, 32]⟩ : ByteArray).size = 2 := rfl
mutual
def muslinref17_Clean.l0 : Nat → List (S63) → ByteArray → Int → Option (ByteArray)
  | 0, _, _, _ => none
  | k + 1, x3, x4, x5 => if x5 < (x3.length : Int) then (if 0 ≤ x5 then ((muslinref17_Safe.f k ((rd_T63 x3 x5).f0) ((rd_T63 x3 x5).f1)).bind fun t161 => (muslinref17_Clean.l1 k x3 x4 x5 t161 (wrap64 (x5 + 1)))) else (none)) else (some x4)
def muslinref17_Clean.l1 : Nat → List (S63) → ByteArray → Int → Bool → Int → Option (ByteArray)
  | 0, _, _, _, _, _ => none
  | k + 1, x3, x4, x5, x6, x7 => if x7 < (x3.length : Int) then (if 0 ≤ x7 then (if 0 ≤ x5 then (if x5 < (x3.length : Int) then (if ((rd_T63 x3 x7).f0).toList = ((rd_T63 x3 x5).f0).toList then ((muslinref17_Safe.f k ((rd_T63 x3 x7).f0) ((rd_T63 x3 x7).f1)).bind fun t166 => (if t166 = true then (muslinref17_Clean.l1 k x3 x4 x5 false (wrap64 (x7 + 1))) else (muslinref17_Clean.l1 k x3 x4 x5 x6 (wrap64 (x7 + 1))))) else (muslinref17_Clean.l1 k x3 x4 x5 x6 (wrap64 (x7 + 1)))) else (none)) else (none)) else (none)) else (if x6 = true then (if x4.toList = ([] : List UInt8) then (if 0 ≤ x5 then (if x5 < (x3.length : Int) then (if x4.size + ((rd_T63 x3 x5).f0).size ≤ 9223372036854775807 then (if (x4 ++ ((rd_T63 x3 x5).f0)).size + 2 ≤ 9223372036854775807 then (if ((x4 ++ ((rd_T63 x3 x5).f0)) ++ (⟨#[58, 32]⟩ : ByteArray)).size + ((rd_T63 x3 x5).f1).size ≤ 9223372036854775807 then (muslinref17_Clean.l0 k x3 (((x4 ++ ((rd_T63 x3 x5).f0)) ++ (⟨#[58, 32]⟩ : ByteArray)) ++ ((rd_T63 x3 x5).f1)) (wrap64 (x5 + 1))) else (none)) else (none)) else (none)) else (none)) else (none)) else (if x4.size + 2 ≤ 9223372036854775807 then (if 0 ≤ x5 then (if x5 < (x3.length : Int) then (if (x4 ++ (⟨#[59, 32]⟩ : ByteArray)).size + ((rd_T63 x3 x5).f0).size ≤ 9223372036854775807 then (if ((x4 ++ (⟨#[59, 32]⟩ : ByteArray)) ++ ((rd_T63 x3 x5).f0)).size + 2 ≤ 9223372036854775807 then (if (((x4 ++ (⟨#[59, 32]⟩ : ByteArray)) ++ ((rd_T63 x3 x5).f0)) ++ (⟨#[58, 32]⟩ : ByteArray)).size + ((rd_T63 x3 x5).f1).size ≤ 9223372036854775807 then (muslinref17_Clean.l0 k x3 ((((x4 ++ (⟨#[59, 32]⟩ : ByteArray)) ++ ((rd_T63 x3 x5).f0)) ++ (⟨#[58, 32]⟩ : ByteArray)) ++ ((rd_T63 x3 x5).f1)) (wrap64 (x5 + 1))) else (none)) else (none)) else (none)) else (none)) else (none)) else (none))) else (muslinref17_Clean.l0 k x3 x4 (wrap64 (x5 + 1))))
end
def muslinref17_Clean.f (k : Nat) (a0 : ByteArray) : Option (ByteArray) := (muslinref17_Cut.f k a0).bind fun t156 => (muslinref17_Clean.l0 k t156 (⟨#[]⟩ : ByteArray) 0)
set_option maxHeartbeats 8000000 in
set_option maxRecDepth 100000 in
theorem muslinref17_Clean.calls (k : Nat) (a0 : ByteArray) (r : ByteArray) (w : World) (h : muslinref17_Clean.f k a0 = some r) :
    Calls Tryz.prog 34 #[.string a0] w fun e w' => e = .returned (.string r) ∧ Below w.heap.size w w' := by
  have HB := Aside0.mk (Below.refl w.heap.size w)
  have H : ((muslinref17_Cut.f k a0).bind fun t156 => (muslinref17_Clean.l0 k t156 (⟨#[]⟩ : ByteArray) 0)) = some r := h
  clear h
  replace H := Option.bind_eq_some_iff.mp H
  obtain ⟨t156, A20, H⟩ := H
  replace H : (muslinref17_Clean.l0 k t156 (⟨#[]⟩ : ByteArray) 0) = some r := H
  have A2 := Aside0.mk A20
  clear A20
  have H' := Aside0.mk H
  clear H
  go_enter Tryz.func34, Tryz.ntmps34
  go_wp2_with (first | (go_at_call 50; (with_reducible refine (muslinref17_Cut.calls k a0 t156 _ A2.out).mono ?_); rintro e w3 ⟨v157, rfl, ho0, hb⟩; have n0_ := Aside0.mk (Kd.R_lower ho0 (below_size (by repeat (first | (with_reducible first | exact HB.out | apply below_alloc | apply pw_below_drewN | apply below_drew1) | exact HB.out)))); have n1_ := Aside0.mk (below_step (by repeat (first | (with_reducible first | exact HB.out | apply below_alloc | apply pw_below_drewN | apply below_drew1) | exact HB.out)) hb); clear HB; have HO158 := n0_; have HB := n1_; clear n0_ n1_; (try clear hb); (try clear hb2); (try clear hk); (try clear hi); (try clear ho0)))
  repeat (go_quiet (first | (go_at_call 50; (with_reducible refine (muslinref17_Cut.calls k a0 t156 _ A2.out).mono ?_); rintro e w3 ⟨v157, rfl, ho0, hb⟩; have n0_ := Aside0.mk (Kd.R_lower ho0 (below_size (by repeat (first | (with_reducible first | exact HB.out | apply below_alloc | apply pw_below_drewN | apply below_drew1) | exact HB.out)))); have n1_ := Aside0.mk (below_step (by repeat (first | (with_reducible first | exact HB.out | apply below_alloc | apply pw_below_drewN | apply below_drew1) | exact HB.out)) hb); clear HB; have HO158 := n0_; have HB := n1_; clear n0_ n1_; (try clear hb); (try clear hb2); (try clear hk); (try clear hi); (try clear ho0))); try go_wp2_with (first | (go_at_call 50; (with_reducible refine (muslinref17_Cut.calls k a0 t156 _ A2.out).mono ?_); rintro e w3 ⟨v157, rfl, ho0, hb⟩; have n0_ := Aside0.mk (Kd.R_lower ho0 (below_size (by repeat (first | (with_reducible first | exact HB.out | apply below_alloc | apply pw_below_drewN | apply below_drew1) | exact HB.out)))); have n1_ := Aside0.mk (below_step (by repeat (first | (with_reducible first | exact HB.out | apply below_alloc | apply pw_below_drewN | apply below_drew1) | exact HB.out)) hb); clear HB; have HO158 := n0_; have HB := n1_; clear n0_ n1_; (try clear hb); (try clear hb2); (try clear hk); (try clear hi); (try clear ho0))))
  go_loopg [4, 5] k (fun kq v4 v5 w' => ∃ (x4_1 : ByteArray) (x5_1 : Int), v4 = .string x4_1 ∧ v5 = .int .i64 x5_1 ∧ Aside0 (muslinref17_Clean.l0 kq t156 x4_1 x5_1 = some r) ∧ Aside0 (kq ≤ k) ∧ Aside0 (Kd.R k63 63 w' w.heap.size (fun _ => True) v157 t156) ∧ Aside0 (Below w.heap.size w w'))
  case atStart => exact ⟨((⟨#[]⟩ : ByteArray)), (0), (by first | rfl | (simp; done) | (simp [*]; done)), (by first | rfl | (simp; done) | (simp [*]; done)), H', ⟨Nat.le_refl _⟩, ⟨by (with_reducible repeat (first | apply Kd.R_alloc | apply Kd.R_drewN | apply Kd.R_drew)); exact HO158.out⟩, ⟨by repeat (first | (with_reducible first | exact HB.out | apply below_alloc | apply pw_below_drewN | apply below_drew1) | exact HB.out)⟩⟩
  case round =>
    clear H'
    try clear p2
    try clear c3
    obtain ⟨x4_1, x5_1, rfl, rfl, HA, HK1, HO_3, HB⟩ := hrel
    cases gk with
    | zero => exact absurd HA.out (by simp [muslinref17_Clean.l0])
    | succ k1 =>
      have H := HA.out
      clear HA
      simp only [muslinref17_Clean.l0] at H
      by_cases c4 : x5_1 < (t156.length : Int)
      · rw [if_pos c4] at H
        have c4b0 : decide (x5_1 < (t156.length : Int)) = true := decide_eq_true c4
        clear c4
        by_cases c5 : 0 ≤ x5_1
        · rw [if_pos c5] at H
          have c5b0 : decide (0 ≤ x5_1) = true := decide_eq_true c5
          clear c5
          replace H := Option.bind_eq_some_iff.mp H
          obtain ⟨t161, A60, H⟩ := H
          replace H : (muslinref17_Clean.l1 k1 t156 x4_1 x5_1 t161 (wrap64 (x5_1 + 1))) = some r := H
          have A6 := Aside0.mk A60
          clear A60
          have H' := Aside0.mk H
          clear H
          obtain ⟨Ao7, co7, eo7⟩ := Kd.R_slice HO_3.out
          subst eo7
          have p159 : 0 ≤ (x5_1 : Int) := of_decide_eq_true (by first | (with_reducible assumption) | assumption)
          have q159 : x5_1 < (t156.length : Int) := of_decide_eq_true (by first | (with_reducible assumption) | assumption)
          obtain ⟨ad159, e159, hx159_0, hx159_1⟩ := at_T63 (Kd.R_reads' HO_3.out).2.2 x5_1 p159 q159
          cases e159
          replace p159 := eq_true p159
          replace q159 := eq_true q159
          have p160 : 0 ≤ (x5_1 : Int) := of_decide_eq_true (by first | (with_reducible assumption) | assumption)
          have q160 : x5_1 < (t156.length : Int) := of_decide_eq_true (by first | (with_reducible assumption) | assumption)
          obtain ⟨ad160, e160, hx160_0, hx160_1⟩ := at_T63 (Kd.R_reads' HO_3.out).2.2 x5_1 p160 q160
          obtain rfl : ad159 = ad160 := (by injection e160)
          replace p160 := eq_true p160
          replace q160 := eq_true q160
          go_wp2_with (first | (go_at_call 51; (with_reducible refine (muslinref17_Safe.calls k1 ((rd_T63 t156 x5_1).f0) ((rd_T63 t156 x5_1).f1) t161 _ A6.out).mono ?_); rintro e w' ⟨rfl, ⟨nd, rfl⟩⟩; (try first | exact ⟨rfl, _, World.drewN_drewN _ _ _⟩ | exact ⟨rfl, _, Eq.trans (World.drewN_drewN _ _ _) (congrArg (World.drewN _) (Nat.add_assoc _ _ _))⟩)))
          repeat (go_quiet (first | (go_at_call 51; (with_reducible refine (muslinref17_Safe.calls k1 ((rd_T63 t156 x5_1).f0) ((rd_T63 t156 x5_1).f1) t161 _ A6.out).mono ?_); rintro e w' ⟨rfl, ⟨nd, rfl⟩⟩; (try first | exact ⟨rfl, _, World.drewN_drewN _ _ _⟩ | exact ⟨rfl, _, Eq.trans (World.drewN_drewN _ _ _) (congrArg (World.drewN _) (Nat.add_assoc _ _ _))⟩))); try go_wp2_with (first | (go_at_call 51; (with_reducible refine (muslinref17_Safe.calls k1 ((rd_T63 t156 x5_1).f0) ((rd_T63 t156 x5_1).f1) t161 _ A6.out).mono ?_); rintro e w' ⟨rfl, ⟨nd, rfl⟩⟩; (try first | exact ⟨rfl, _, World.drewN_drewN _ _ _⟩ | exact ⟨rfl, _, Eq.trans (World.drewN_drewN _ _ _) (congrArg (World.drewN _) (Nat.add_assoc _ _ _))⟩))))
          go_loopg [6, 7] k1 (fun kq v6 v7 w' => ∃ (x6_2 : Bool) (x7_2 : Int), v6 = .bool x6_2 ∧ v7 = .int .i64 x7_2 ∧ Aside0 (muslinref17_Clean.l1 kq t156 x4_1 x5_1 x6_2 x7_2 = some r) ∧ Aside0 (kq ≤ k1) ∧ Aside0 (Kd.R k63 63 w' w.heap.size (fun _ => True) (.slice (some ad159) t156.length co7) t156) ∧ Aside0 (Below w.heap.size w w'))
          case atStart => exact ⟨(t161), (wrap64 (x5_1 + 1)), (by first | rfl | (simp; done) | (simp [*]; done)), (by first | rfl | (simp; done) | (simp [*]; done)), H', ⟨Nat.le_refl _⟩, ⟨by (with_reducible repeat (first | apply Kd.R_alloc | apply Kd.R_drewN | apply Kd.R_drew)); exact HO_3.out⟩, ⟨by repeat (first | (with_reducible first | exact HB.out | apply below_alloc | apply pw_below_drewN | apply below_drew1) | exact HB.out)⟩⟩
          case round =>
            clear H'
            try clear p1
            try clear q1
            try clear hx1
            try clear p2
            try clear c3
            try clear c4
            try clear c4b0
            try clear c5
            try clear c5b0
            try clear p6
            try clear hx159_0
            try clear hx159_1
            try clear hx160_0
            try clear hx160_1
            try clear p159
            try clear p160
            try clear p2
            try clear q159
            try clear q160
            obtain ⟨x6_2, x7_2, rfl, rfl, HA, HK2, HO_3, HB⟩ := hrel
            cases gk with
            | zero => exact absurd HA.out (by simp [muslinref17_Clean.l1])
            | succ k2 =>
              have H := HA.out
              clear HA
              simp only [muslinref17_Clean.l1] at H
              by_cases c8 : x7_2 < (t156.length : Int)
              · rw [if_pos c8] at H
                have c8b0 : decide (x7_2 < (t156.length : Int)) = true := decide_eq_true c8
                clear c8
                by_cases c9 : 0 ≤ x7_2
                · rw [if_pos c9] at H
                  have c9b0 : decide (0 ≤ x7_2) = true := decide_eq_true c9
                  clear c9
                  by_cases c10 : 0 ≤ x5_1
                  · rw [if_pos c10] at H
                    have c10b0 : decide (0 ≤ x5_1) = true := decide_eq_true c10
                    clear c10
                    by_cases c11 : x5_1 < (t156.length : Int)
                    · rw [if_pos c11] at H
                      have c11b0 : decide (x5_1 < (t156.length : Int)) = true := decide_eq_true c11
                      clear c11
                      by_cases c12 : ((rd_T63 t156 x7_2).f0).toList = ((rd_T63 t156 x5_1).f0).toList
                      · rw [if_pos c12] at H
                        have c12b0 : (((rd_T63 t156 x7_2).f0).toList == ((rd_T63 t156 x5_1).f0).toList) = true := beq_iff_eq.mpr c12
                        have c12b1 : (((rd_T63 t156 x7_2).f0).toList != ((rd_T63 t156 x5_1).f0).toList) = false := bne_eq_false_iff_eq.mpr c12
                        clear c12
                        replace H := Option.bind_eq_some_iff.mp H
                        obtain ⟨t166, A130, H⟩ := H
                        replace H : (if t166 = true then (muslinref17_Clean.l1 k2 t156 x4_1 x5_1 false (wrap64 (x7_2 + 1))) else (muslinref17_Clean.l1 k2 t156 x4_1 x5_1 x6_2 (wrap64 (x7_2 + 1)))) = some r := H
                        have A13 := Aside0.mk A130
                        clear A130
                        by_cases c14 : t166 = true
                        · subst c14
                          have H1 : (muslinref17_Clean.l1 k2 t156 x4_1 x5_1 false (wrap64 (x7_2 + 1))) = some r := by rw [if_pos rfl] at H; exact H
                          clear H
                          have H := H1
                          clear H1
                          have H' := Aside0.mk H
                          clear H
                          have p162 : 0 ≤ (x7_2 : Int) := of_decide_eq_true (by first | (with_reducible assumption) | assumption)
                          have q162 : x7_2 < (t156.length : Int) := of_decide_eq_true (by first | (with_reducible assumption) | assumption)
                          obtain ⟨ad162, e162, hx162_0, hx162_1⟩ := at_T63 (Kd.R_reads' HO_3.out).2.2 x7_2 p162 q162
                          obtain rfl : ad159 = ad162 := (by injection e162)
                          replace p162 := eq_true p162
                          replace q162 := eq_true q162
                          have p163 : 0 ≤ (x5_1 : Int) := of_decide_eq_true (by first | (with_reducible assumption) | assumption)
                          have q163 : x5_1 < (t156.length : Int) := of_decide_eq_true (by first | (with_reducible assumption) | assumption)
                          obtain ⟨ad163, e163, hx163_0, hx163_1⟩ := at_T63 (Kd.R_reads' HO_3.out).2.2 x5_1 p163 q163
                          obtain rfl : ad159 = ad163 := (by injection e163)
                          replace p163 := eq_true p163
                          replace q163 := eq_true q163
                          have p164 : 0 ≤ (x7_2 : Int) := of_decide_eq_true (by first | (with_reducible assumption) | assumption)
                          have q164 : x7_2 < (t156.length : Int) := of_decide_eq_true (by first | (with_reducible assumption) | assumption)
                          obtain ⟨ad164, e164, hx164_0, hx164_1⟩ := at_T63 (Kd.R_reads' HO_3.out).2.2 x7_2 p164 q164
                          obtain rfl : ad159 = ad164 := (by injection e164)
                          replace p164 := eq_true p164
                          replace q164 := eq_true q164
                          have p165 : 0 ≤ (x7_2 : Int) := of_decide_eq_true (by first | (with_reducible assumption) | assumption)
                          have q165 : x7_2 < (t156.length : Int) := of_decide_eq_true (by first | (with_reducible assumption) | assumption)
                          obtain ⟨ad165, e165, hx165_0, hx165_1⟩ := at_T63 (Kd.R_reads' HO_3.out).2.2 x7_2 p165 q165
                          obtain rfl : ad159 = ad165 := (by injection e165)
                          replace p165 := eq_true p165
                          replace q165 := eq_true q165
                          go_wp2_with (first | (go_at_call 51; (with_reducible refine (muslinref17_Safe.calls k2 ((rd_T63 t156 x7_2).f0) ((rd_T63 t156 x7_2).f1) true _ A13.out).mono ?_); rintro e w' ⟨rfl, ⟨nd, rfl⟩⟩; (try first | exact ⟨rfl, _, World.drewN_drewN _ _ _⟩ | exact ⟨rfl, _, Eq.trans (World.drewN_drewN _ _ _) (congrArg (World.drewN _) (Nat.add_assoc _ _ _))⟩)))
                          repeat (go_quiet (first | (go_at_call 51; (with_reducible refine (muslinref17_Safe.calls k2 ((rd_T63 t156 x7_2).f0) ((rd_T63 t156 x7_2).f1) true _ A13.out).mono ?_); rintro e w' ⟨rfl, ⟨nd, rfl⟩⟩; (try first | exact ⟨rfl, _, World.drewN_drewN _ _ _⟩ | exact ⟨rfl, _, Eq.trans (World.drewN_drewN _ _ _) (congrArg (World.drewN _) (Nat.add_assoc _ _ _))⟩))); try go_wp2_with (first | (go_at_call 51; (with_reducible refine (muslinref17_Safe.calls k2 ((rd_T63 t156 x7_2).f0) ((rd_T63 t156 x7_2).f1) true _ A13.out).mono ?_); rintro e w' ⟨rfl, ⟨nd, rfl⟩⟩; (try first | exact ⟨rfl, _, World.drewN_drewN _ _ _⟩ | exact ⟨rfl, _, Eq.trans (World.drewN_drewN _ _ _) (congrArg (World.drewN _) (Nat.add_assoc _ _ _))⟩))))
                          go_roundg k2
                          case measure => have := HK1.out; have := HK2.out; omega
                          case rel => exact ⟨(false), (wrap64 (x7_2 + 1)), (by first | rfl | (simp; done) | (simp [*]; done)), (by first | rfl | (simp; done) | (simp [*]; done)), H', ⟨by have := HK1.out; have := HK2.out; omega⟩, ⟨by (with_reducible repeat (first | apply Kd.R_alloc | apply Kd.R_drewN | apply Kd.R_drew)); exact HO_3.out⟩, ⟨by repeat (first | (with_reducible first | exact HB.out | apply below_alloc | apply pw_below_drewN | apply below_drew1) | exact HB.out)⟩⟩
                        · replace c14 := Bool.eq_false_iff.mpr c14
                          subst c14
                          have H1 : (muslinref17_Clean.l1 k2 t156 x4_1 x5_1 x6_2 (wrap64 (x7_2 + 1))) = some r := by rw [if_neg (show ¬ (false = true) by decide)] at H; exact H
                          clear H
                          have H := H1
                          clear H1
                          have H' := Aside0.mk H
                          clear H
                          have p162 : 0 ≤ (x7_2 : Int) := of_decide_eq_true (by first | (with_reducible assumption) | assumption)
                          have q162 : x7_2 < (t156.length : Int) := of_decide_eq_true (by first | (with_reducible assumption) | assumption)
                          obtain ⟨ad162, e162, hx162_0, hx162_1⟩ := at_T63 (Kd.R_reads' HO_3.out).2.2 x7_2 p162 q162
                          obtain rfl : ad159 = ad162 := (by injection e162)
                          replace p162 := eq_true p162
                          replace q162 := eq_true q162
                          have p163 : 0 ≤ (x5_1 : Int) := of_decide_eq_true (by first | (with_reducible assumption) | assumption)
                          have q163 : x5_1 < (t156.length : Int) := of_decide_eq_true (by first | (with_reducible assumption) | assumption)
                          obtain ⟨ad163, e163, hx163_0, hx163_1⟩ := at_T63 (Kd.R_reads' HO_3.out).2.2 x5_1 p163 q163
                          obtain rfl : ad159 = ad163 := (by injection e163)
                          replace p163 := eq_true p163
                          replace q163 := eq_true q163
                          have p164 : 0 ≤ (x7_2 : Int) := of_decide_eq_true (by first | (with_reducible assumption) | assumption)
                          have q164 : x7_2 < (t156.length : Int) := of_decide_eq_true (by first | (with_reducible assumption) | assumption)
                          obtain ⟨ad164, e164, hx164_0, hx164_1⟩ := at_T63 (Kd.R_reads' HO_3.out).2.2 x7_2 p164 q164
                          obtain rfl : ad159 = ad164 := (by injection e164)
                          replace p164 := eq_true p164
                          replace q164 := eq_true q164
                          have p165 : 0 ≤ (x7_2 : Int) := of_decide_eq_true (by first | (with_reducible assumption) | assumption)
                          have q165 : x7_2 < (t156.length : Int) := of_decide_eq_true (by first | (with_reducible assumption) | assumption)
                          obtain ⟨ad165, e165, hx165_0, hx165_1⟩ := at_T63 (Kd.R_reads' HO_3.out).2.2 x7_2 p165 q165
                          obtain rfl : ad159 = ad165 := (by injection e165)
                          replace p165 := eq_true p165
                          replace q165 := eq_true q165
                          go_wp2_with (first | (go_at_call 51; (with_reducible refine (muslinref17_Safe.calls k2 ((rd_T63 t156 x7_2).f0) ((rd_T63 t156 x7_2).f1) false _ A13.out).mono ?_); rintro e w' ⟨rfl, ⟨nd, rfl⟩⟩; (try first | exact ⟨rfl, _, World.drewN_drewN _ _ _⟩ | exact ⟨rfl, _, Eq.trans (World.drewN_drewN _ _ _) (congrArg (World.drewN _) (Nat.add_assoc _ _ _))⟩)))
                          repeat (go_quiet (first | (go_at_call 51; (with_reducible refine (muslinref17_Safe.calls k2 ((rd_T63 t156 x7_2).f0) ((rd_T63 t156 x7_2).f1) false _ A13.out).mono ?_); rintro e w' ⟨rfl, ⟨nd, rfl⟩⟩; (try first | exact ⟨rfl, _, World.drewN_drewN _ _ _⟩ | exact ⟨rfl, _, Eq.trans (World.drewN_drewN _ _ _) (congrArg (World.drewN _) (Nat.add_assoc _ _ _))⟩))); try go_wp2_with (first | (go_at_call 51; (with_reducible refine (muslinref17_Safe.calls k2 ((rd_T63 t156 x7_2).f0) ((rd_T63 t156 x7_2).f1) false _ A13.out).mono ?_); rintro e w' ⟨rfl, ⟨nd, rfl⟩⟩; (try first | exact ⟨rfl, _, World.drewN_drewN _ _ _⟩ | exact ⟨rfl, _, Eq.trans (World.drewN_drewN _ _ _) (congrArg (World.drewN _) (Nat.add_assoc _ _ _))⟩))))
                          go_roundg k2
                          case measure => have := HK1.out; have := HK2.out; omega
                          case rel => exact ⟨(x6_2), (wrap64 (x7_2 + 1)), (by first | rfl | (simp; done) | (simp [*]; done)), (by first | rfl | (simp; done) | (simp [*]; done)), H', ⟨by have := HK1.out; have := HK2.out; omega⟩, ⟨by (with_reducible repeat (first | apply Kd.R_alloc | apply Kd.R_drewN | apply Kd.R_drew)); exact HO_3.out⟩, ⟨by repeat (first | (with_reducible first | exact HB.out | apply below_alloc | apply pw_below_drewN | apply below_drew1) | exact HB.out)⟩⟩
                      · rw [if_neg c12] at H
                        have c12b0 : (((rd_T63 t156 x7_2).f0).toList == ((rd_T63 t156 x5_1).f0).toList) = false := beq_eq_false_iff_ne.mpr c12
                        have c12b1 : (((rd_T63 t156 x7_2).f0).toList != ((rd_T63 t156 x5_1).f0).toList) = true := bne_iff_ne.mpr c12
                        have H' := Aside0.mk H
                        clear H
                        have p162 : 0 ≤ (x7_2 : Int) := of_decide_eq_true (by first | (with_reducible assumption) | assumption)
                        have q162 : x7_2 < (t156.length : Int) := of_decide_eq_true (by first | (with_reducible assumption) | assumption)
                        obtain ⟨ad162, e162, hx162_0, hx162_1⟩ := at_T63 (Kd.R_reads' HO_3.out).2.2 x7_2 p162 q162
                        obtain rfl : ad159 = ad162 := (by injection e162)
                        replace p162 := eq_true p162
                        replace q162 := eq_true q162
                        have p163 : 0 ≤ (x5_1 : Int) := of_decide_eq_true (by first | (with_reducible assumption) | assumption)
                        have q163 : x5_1 < (t156.length : Int) := of_decide_eq_true (by first | (with_reducible assumption) | assumption)
                        obtain ⟨ad163, e163, hx163_0, hx163_1⟩ := at_T63 (Kd.R_reads' HO_3.out).2.2 x5_1 p163 q163
                        obtain rfl : ad159 = ad163 := (by injection e163)
                        replace p163 := eq_true p163
                        replace q163 := eq_true q163
                        go_wp2
                        repeat (go_quiet (fail); try go_wp2)
                        go_roundg k2
                        case measure => have := HK1.out; have := HK2.out; omega
                        case rel => exact ⟨(x6_2), (wrap64 (x7_2 + 1)), (by first | rfl | (simp; done) | (simp [*]; done)), (by first | rfl | (simp; done) | (simp [*]; done)), H', ⟨by have := HK1.out; have := HK2.out; omega⟩, ⟨by (with_reducible repeat (first | apply Kd.R_alloc | apply Kd.R_drewN | apply Kd.R_drew)); exact HO_3.out⟩, ⟨by repeat (first | (with_reducible first | exact HB.out | apply below_alloc | apply pw_below_drewN | apply below_drew1) | exact HB.out)⟩⟩
                    · rw [if_neg c11] at H
                      exact absurd H (by simp)
                  · rw [if_neg c10] at H
                    exact absurd H (by simp)
                · rw [if_neg c9] at H
                  exact absurd H (by simp)
              · rw [if_neg c8] at H
                have c8b0 : decide (x7_2 < (t156.length : Int)) = false := decide_eq_false c8
                clear c8
                by_cases c15 : x6_2 = true
                · subst c15
                  have H1 : (if x4_1.toList = ([] : List UInt8) then (if 0 ≤ x5_1 then (if x5_1 < (t156.length : Int) then (if x4_1.size + ((rd_T63 t156 x5_1).f0).size ≤ 9223372036854775807 then (if (x4_1 ++ ((rd_T63 t156 x5_1).f0)).size + 2 ≤ 9223372036854775807 then (if ((x4_1 ++ ((rd_T63 t156 x5_1).f0)) ++ (⟨#[58, 32]⟩ : ByteArray)).size + ((rd_T63 t156 x5_1).f1).size ≤ 9223372036854775807 then (muslinref17_Clean.l0 k2 t156 (((x4_1 ++ ((rd_T63 t156 x5_1).f0)) ++ (⟨#[58, 32]⟩ : ByteArray)) ++ ((rd_T63 t156 x5_1).f1)) (wrap64 (x5_1 + 1))) else (none)) else (none)) else (none)) else (none)) else (none)) else (if x4_1.size + 2 ≤ 9223372036854775807 then (if 0 ≤ x5_1 then (if x5_1 < (t156.length : Int) then (if (x4_1 ++ (⟨#[59, 32]⟩ : ByteArray)).size + ((rd_T63 t156 x5_1).f0).size ≤ 9223372036854775807 then (if ((x4_1 ++ (⟨#[59, 32]⟩ : ByteArray)) ++ ((rd_T63 t156 x5_1).f0)).size + 2 ≤ 9223372036854775807 then (if (((x4_1 ++ (⟨#[59, 32]⟩ : ByteArray)) ++ ((rd_T63 t156 x5_1).f0)) ++ (⟨#[58, 32]⟩ : ByteArray)).size + ((rd_T63 t156 x5_1).f1).size ≤ 9223372036854775807 then (muslinref17_Clean.l0 k2 t156 ((((x4_1 ++ (⟨#[59, 32]⟩ : ByteArray)) ++ ((rd_T63 t156 x5_1).f0)) ++ (⟨#[58, 32]⟩ : ByteArray)) ++ ((rd_T63 t156 x5_1).f1)) (wrap64 (x5_1 + 1))) else (none)) else (none)) else (none)) else (none)) else (none)) else (none))) = some r := by rw [if_pos rfl] at H; exact H
                  clear H
                  have H := H1
                  clear H1
                  by_cases c16 : x4_1.toList = ([] : List UInt8)
                  · rw [if_pos c16] at H
                    have c16b0 : (x4_1.toList == ([] : List UInt8)) = true := beq_iff_eq.mpr c16
                    have c16b1 : (x4_1.toList != ([] : List UInt8)) = false := bne_eq_false_iff_eq.mpr c16
                    clear c16
                    by_cases c17 : 0 ≤ x5_1
                    · rw [if_pos c17] at H
                      have c17b0 : decide (0 ≤ x5_1) = true := decide_eq_true c17
                      clear c17
                      by_cases c18 : x5_1 < (t156.length : Int)
                      · rw [if_pos c18] at H
                        have c18b0 : decide (x5_1 < (t156.length : Int)) = true := decide_eq_true c18
                        clear c18
                        by_cases c19 : x4_1.size + ((rd_T63 t156 x5_1).f0).size ≤ 9223372036854775807
                        · rw [if_pos c19] at H
                          have c19b0 := eq_true c19
                          have c19b1 : decide (x4_1.size + ((rd_T63 t156 x5_1).f0).size ≤ 9223372036854775807) = true := decide_eq_true c19
                          try have c19b2 : (9223372036854775807 < x4_1.size + ((rd_T63 t156 x5_1).f0).size) = False := eq_false (Nat.not_lt.2 c19)
                          by_cases c20 : (x4_1 ++ ((rd_T63 t156 x5_1).f0)).size + 2 ≤ 9223372036854775807
                          · rw [if_pos c20] at H
                            have c20b0 := eq_true c20
                            have c20b1 : decide ((x4_1 ++ ((rd_T63 t156 x5_1).f0)).size + 2 ≤ 9223372036854775807) = true := decide_eq_true c20
                            try have c20b2 : (9223372036854775807 < (x4_1 ++ ((rd_T63 t156 x5_1).f0)).size + 2) = False := eq_false (Nat.not_lt.2 c20)
                            by_cases c21 : ((x4_1 ++ ((rd_T63 t156 x5_1).f0)) ++ (⟨#[58, 32]⟩ : ByteArray)).size + ((rd_T63 t156 x5_1).f1).size ≤ 9223372036854775807
                            · rw [if_pos c21] at H
                              have c21b0 := eq_true c21
                              have c21b1 : decide (((x4_1 ++ ((rd_T63 t156 x5_1).f0)) ++ (⟨#[58, 32]⟩ : ByteArray)).size + ((rd_T63 t156 x5_1).f1).size ≤ 9223372036854775807) = true := decide_eq_true c21
                              try have c21b2 : (9223372036854775807 < ((x4_1 ++ ((rd_T63 t156 x5_1).f0)) ++ (⟨#[58, 32]⟩ : ByteArray)).size + ((rd_T63 t156 x5_1).f1).size) = False := eq_false (Nat.not_lt.2 c21)
                              have H' := Aside0.mk H
                              clear H
                              have p167 : 0 ≤ (x5_1 : Int) := of_decide_eq_true (by first | (with_reducible assumption) | assumption)
                              have q167 : x5_1 < (t156.length : Int) := of_decide_eq_true (by first | (with_reducible assumption) | assumption)
                              obtain ⟨ad167, e167, hx167_0, hx167_1⟩ := at_T63 (Kd.R_reads' HO_3.out).2.2 x5_1 p167 q167
                              obtain rfl : ad159 = ad167 := (by injection e167)
                              replace p167 := eq_true p167
                              replace q167 := eq_true q167
                              have p168 : 0 ≤ (x5_1 : Int) := of_decide_eq_true (by first | (with_reducible assumption) | assumption)
                              have q168 : x5_1 < (t156.length : Int) := of_decide_eq_true (by first | (with_reducible assumption) | assumption)
                              obtain ⟨ad168, e168, hx168_0, hx168_1⟩ := at_T63 (Kd.R_reads' HO_3.out).2.2 x5_1 p168 q168
                              obtain rfl : ad159 = ad168 := (by injection e168)
                              replace p168 := eq_true p168
                              replace q168 := eq_true q168
                              have z0 : x4_1.size + (rd_T63 t156 x5_1).f0.size + 2 ≤ 9223372036854775807 := by have h := c20; simp only [ByteArray.size_append, lit2a, lit2b] at h; omega
                              have z0b := eq_true z0
                              have z0d : decide (x4_1.size + (rd_T63 t156 x5_1).f0.size + 2 ≤ 9223372036854775807) = true := decide_eq_true z0
                              have z0f : (9223372036854775807 < x4_1.size + (rd_T63 t156 x5_1).f0.size + 2) = False := eq_false (Nat.not_lt.2 z0)
                              have z1 : x4_1.size + (rd_T63 t156 x5_1).f0.size + 2 + (rd_T63 t156 x5_1).f1.size ≤ 9223372036854775807 := by have h := c21; simp only [ByteArray.size_append, lit2a, lit2b] at h; omega
                              have z1b := eq_true z1
                              have z1d : decide (x4_1.size + (rd_T63 t156 x5_1).f0.size + 2 + (rd_T63 t156 x5_1).f1.size ≤ 9223372036854775807) = true := decide_eq_true z1
                              have z1f : (9223372036854775807 < x4_1.size + (rd_T63 t156 x5_1).f0.size + 2 + (rd_T63 t156 x5_1).f1.size) = False := eq_false (Nat.not_lt.2 z1)
                              go_wp2
                              repeat (go_quiet (fail); try go_wp2)
                              go_roundg k2
                              case measure => have := HK1.out; have := HK2.out; omega
                              case rel => exact ⟨(((x4_1 ++ ((rd_T63 t156 x5_1).f0)) ++ (⟨#[58, 32]⟩ : ByteArray)) ++ ((rd_T63 t156 x5_1).f1)), (wrap64 (x5_1 + 1)), (by first | rfl | (simp; done) | (simp [*]; done)), (by first | rfl | (simp; done) | (simp [*]; done)), H', ⟨by have := HK1.out; have := HK2.out; omega⟩, ⟨by (with_reducible repeat (first | apply Kd.R_alloc | apply Kd.R_drewN | apply Kd.R_drew)); exact HO_3.out⟩, ⟨by repeat (first | (with_reducible first | exact HB.out | apply below_alloc | apply pw_below_drewN | apply below_drew1) | exact HB.out)⟩⟩
                            · rw [if_neg c21] at H
                              exact absurd H (by simp)
                          · rw [if_neg c20] at H
                            exact absurd H (by simp)
                        · rw [if_neg c19] at H
                          exact absurd H (by simp)
                      · rw [if_neg c18] at H
                        exact absurd H (by simp)
                    · rw [if_neg c17] at H
                      exact absurd H (by simp)
                  · rw [if_neg c16] at H
                    have c16b0 : (x4_1.toList == ([] : List UInt8)) = false := beq_eq_false_iff_ne.mpr c16
                    have c16b1 : (x4_1.toList != ([] : List UInt8)) = true := bne_iff_ne.mpr c16
                    by_cases c22 : x4_1.size + 2 ≤ 9223372036854775807
                    · rw [if_pos c22] at H
                      have c22b0 := eq_true c22
                      have c22b1 : decide (x4_1.size + 2 ≤ 9223372036854775807) = true := decide_eq_true c22
                      try have c22b2 : (9223372036854775807 < x4_1.size + 2) = False := eq_false (Nat.not_lt.2 c22)
                      by_cases c23 : 0 ≤ x5_1
                      · rw [if_pos c23] at H
                        have c23b0 : decide (0 ≤ x5_1) = true := decide_eq_true c23
                        clear c23
                        by_cases c24 : x5_1 < (t156.length : Int)
                        · rw [if_pos c24] at H
                          have c24b0 : decide (x5_1 < (t156.length : Int)) = true := decide_eq_true c24
                          clear c24
                          by_cases c25 : (x4_1 ++ (⟨#[59, 32]⟩ : ByteArray)).size + ((rd_T63 t156 x5_1).f0).size ≤ 9223372036854775807
                          · rw [if_pos c25] at H
                            have c25b0 := eq_true c25
                            have c25b1 : decide ((x4_1 ++ (⟨#[59, 32]⟩ : ByteArray)).size + ((rd_T63 t156 x5_1).f0).size ≤ 9223372036854775807) = true := decide_eq_true c25
                            try have c25b2 : (9223372036854775807 < (x4_1 ++ (⟨#[59, 32]⟩ : ByteArray)).size + ((rd_T63 t156 x5_1).f0).size) = False := eq_false (Nat.not_lt.2 c25)
                            by_cases c26 : ((x4_1 ++ (⟨#[59, 32]⟩ : ByteArray)) ++ ((rd_T63 t156 x5_1).f0)).size + 2 ≤ 9223372036854775807
                            · rw [if_pos c26] at H
                              have c26b0 := eq_true c26
                              have c26b1 : decide (((x4_1 ++ (⟨#[59, 32]⟩ : ByteArray)) ++ ((rd_T63 t156 x5_1).f0)).size + 2 ≤ 9223372036854775807) = true := decide_eq_true c26
                              try have c26b2 : (9223372036854775807 < ((x4_1 ++ (⟨#[59, 32]⟩ : ByteArray)) ++ ((rd_T63 t156 x5_1).f0)).size + 2) = False := eq_false (Nat.not_lt.2 c26)
                              by_cases c27 : (((x4_1 ++ (⟨#[59, 32]⟩ : ByteArray)) ++ ((rd_T63 t156 x5_1).f0)) ++ (⟨#[58, 32]⟩ : ByteArray)).size + ((rd_T63 t156 x5_1).f1).size ≤ 9223372036854775807
                              · rw [if_pos c27] at H
                                have c27b0 := eq_true c27
                                have c27b1 : decide ((((x4_1 ++ (⟨#[59, 32]⟩ : ByteArray)) ++ ((rd_T63 t156 x5_1).f0)) ++ (⟨#[58, 32]⟩ : ByteArray)).size + ((rd_T63 t156 x5_1).f1).size ≤ 9223372036854775807) = true := decide_eq_true c27
                                try have c27b2 : (9223372036854775807 < (((x4_1 ++ (⟨#[59, 32]⟩ : ByteArray)) ++ ((rd_T63 t156 x5_1).f0)) ++ (⟨#[58, 32]⟩ : ByteArray)).size + ((rd_T63 t156 x5_1).f1).size) = False := eq_false (Nat.not_lt.2 c27)
                                have H' := Aside0.mk H
                                clear H
                                have p169 : 0 ≤ (x5_1 : Int) := of_decide_eq_true (by first | (with_reducible assumption) | assumption)
                                have q169 : x5_1 < (t156.length : Int) := of_decide_eq_true (by first | (with_reducible assumption) | assumption)
                                obtain ⟨ad169, e169, hx169_0, hx169_1⟩ := at_T63 (Kd.R_reads' HO_3.out).2.2 x5_1 p169 q169
                                obtain rfl : ad159 = ad169 := (by injection e169)
                                replace p169 := eq_true p169
                                replace q169 := eq_true q169
                                have p170 : 0 ≤ (x5_1 : Int) := of_decide_eq_true (by first | (with_reducible assumption) | assumption)
                                have q170 : x5_1 < (t156.length : Int) := of_decide_eq_true (by first | (with_reducible assumption) | assumption)
                                obtain ⟨ad170, e170, hx170_0, hx170_1⟩ := at_T63 (Kd.R_reads' HO_3.out).2.2 x5_1 p170 q170
                                obtain rfl : ad159 = ad170 := (by injection e170)
                                replace p170 := eq_true p170
                                replace q170 := eq_true q170
                                have z0 : x4_1.size + 2 + (rd_T63 t156 x5_1).f0.size ≤ 9223372036854775807 := by have h := c25; simp only [ByteArray.size_append, lit2a, lit2b] at h; omega
                                have z0b := eq_true z0
                                have z0d : decide (x4_1.size + 2 + (rd_T63 t156 x5_1).f0.size ≤ 9223372036854775807) = true := decide_eq_true z0
                                have z0f : (9223372036854775807 < x4_1.size + 2 + (rd_T63 t156 x5_1).f0.size) = False := eq_false (Nat.not_lt.2 z0)
                                have z1 : x4_1.size + 2 + (rd_T63 t156 x5_1).f0.size + 2 ≤ 9223372036854775807 := by have h := c26; simp only [ByteArray.size_append, lit2a, lit2b] at h; omega
                                have z1b := eq_true z1
                                have z1d : decide (x4_1.size + 2 + (rd_T63 t156 x5_1).f0.size + 2 ≤ 9223372036854775807) = true := decide_eq_true z1
                                have z1f : (9223372036854775807 < x4_1.size + 2 + (rd_T63 t156 x5_1).f0.size + 2) = False := eq_false (Nat.not_lt.2 z1)
                                have z2 : x4_1.size + 2 + (rd_T63 t156 x5_1).f0.size + 2 + (rd_T63 t156 x5_1).f1.size ≤ 9223372036854775807 := by have h := c27; simp only [ByteArray.size_append, lit2a, lit2b] at h; omega
                                have z2b := eq_true z2
                                have z2d : decide (x4_1.size + 2 + (rd_T63 t156 x5_1).f0.size + 2 + (rd_T63 t156 x5_1).f1.size ≤ 9223372036854775807) = true := decide_eq_true z2
                                have z2f : (9223372036854775807 < x4_1.size + 2 + (rd_T63 t156 x5_1).f0.size + 2 + (rd_T63 t156 x5_1).f1.size) = False := eq_false (Nat.not_lt.2 z2)
                                go_wp2
                                repeat (go_quiet (fail); try go_wp2)
                                go_roundg k2
                                case measure => have := HK1.out; have := HK2.out; omega
                                case rel => exact ⟨((((x4_1 ++ (⟨#[59, 32]⟩ : ByteArray)) ++ ((rd_T63 t156 x5_1).f0)) ++ (⟨#[58, 32]⟩ : ByteArray)) ++ ((rd_T63 t156 x5_1).f1)), (wrap64 (x5_1 + 1)), (by first | rfl | (simp; done) | (simp [*]; done)), (by first | rfl | (simp; done) | (simp [*]; done)), H', ⟨by have := HK1.out; have := HK2.out; omega⟩, ⟨by (with_reducible repeat (first | apply Kd.R_alloc | apply Kd.R_drewN | apply Kd.R_drew)); exact HO_3.out⟩, ⟨by repeat (first | (with_reducible first | exact HB.out | apply below_alloc | apply pw_below_drewN | apply below_drew1) | exact HB.out)⟩⟩
                              · rw [if_neg c27] at H
                                exact absurd H (by simp)
                            · rw [if_neg c26] at H
                              exact absurd H (by simp)
                          · rw [if_neg c25] at H
                            exact absurd H (by simp)
                        · rw [if_neg c24] at H
                          exact absurd H (by simp)
                      · rw [if_neg c23] at H
                        exact absurd H (by simp)
                    · rw [if_neg c22] at H
                      exact absurd H (by simp)
                · replace c15 := Bool.eq_false_iff.mpr c15
                  subst c15
                  have H1 : (muslinref17_Clean.l0 k2 t156 x4_1 (wrap64 (x5_1 + 1))) = some r := by rw [if_neg (show ¬ (false = true) by decide)] at H; exact H
                  clear H
                  have H := H1
                  clear H1
                  have H' := Aside0.mk H
                  clear H
                  go_wp2
                  repeat (go_quiet (fail); try go_wp2)
                  go_roundg k2
                  case measure => have := HK1.out; have := HK2.out; omega
                  case rel => exact ⟨(x4_1), (wrap64 (x5_1 + 1)), (by first | rfl | (simp; done) | (simp [*]; done)), (by first | rfl | (simp; done) | (simp [*]; done)), H', ⟨by have := HK1.out; have := HK2.out; omega⟩, ⟨by (with_reducible repeat (first | apply Kd.R_alloc | apply Kd.R_drewN | apply Kd.R_drew)); exact HO_3.out⟩, ⟨by repeat (first | (with_reducible first | exact HB.out | apply below_alloc | apply pw_below_drewN | apply below_drew1) | exact HB.out)⟩⟩
        · rw [if_neg c5] at H
          exact absurd H (by simp)
      · rw [if_neg c4] at H
        have c4b0 : decide (x5_1 < (t156.length : Int)) = false := decide_eq_false c4
        clear c4
        obtain rfl := Option.some.inj H
        obtain ⟨Ao28, co28, eo28⟩ := Kd.R_slice HO_3.out
        subst eo28
        go_wp2
        repeat (go_quiet (fail); try go_wp2)
        go_ret
        exact ⟨by first | rfl | (simp [errW_none, errW_some] <;> rfl) | (simp [*, errW_none, errW_some] <;> rfl), by repeat (first | (with_reducible first | exact HB.out | apply below_alloc | apply pw_below_drewN | apply below_drew1) | exact HB.out)⟩
end Go.Proofs.YtchooidhieaphaaGreatDoor.PQ
