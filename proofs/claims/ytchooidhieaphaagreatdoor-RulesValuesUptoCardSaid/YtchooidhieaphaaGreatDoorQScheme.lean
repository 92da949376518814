/- The document's Scheme, walked (a program wrote this text out of the translation): it returns what its plain function says. -/
import Derived.Test.YtchooidhieaphaaGreatDoorCleanAll
import Derived.Test.YtchooidhieaphaaGreatDoorR6
namespace Go.Proofs.YtchooidhieaphaaGreatDoor.PQ
open Go.RowKit Go.Proofs.YtchooidhieaphaaGreatDoor.PRulesValues Go.Proofs.YtchooidhieaphaaGreatDoorW.PrintWords Go.Proofs.YtchooidhieaphaaGreatDoorW.PrintLast Go.Proofs.YtchooidhieaphaaGreatDoorW.PrintMore
set_option linter.unusedVariables false
set_option linter.unusedSimpArgs false
/-- The document's Small, as the printed texts want it told. -/
def muslinref03_Small.f (k : Nat) (a0 : ByteArray) : Option (ByteArray) := if a0.size < 4294967281 then some ⟨(a0.data.toList.map smallB).toArray⟩ else none
theorem muslinref03_Small.calls (k : Nat) (a0 : ByteArray) (r : ByteArray) (w : World) (h : muslinref03_Small.f k a0 = some r) :
    Calls Tryz.prog 76 #[.string a0] w fun e w' => e = .returned (.string r) ∧ Below w.heap.size w w' := by
  unfold muslinref03_Small.f at h
  split at h
  · injection h with h
    subst h
    exact refSmall_any a0 w (by assumption)
  · cases h
def muslinref16_Scheme.l0 : Nat → ByteArray → Int → Option (ByteArray × Bool)
  | 0, _, _ => none
  | k + 1, x4, x5 => if x5 < (x4.size : Int) then (if 0 ≤ x5 then (if (bt x4 x5) = 58 then (if x5 ≤ (x4.size : Int) then ((muslinref03_Small.f k (x4.extract 0 (x5 : Int).toNat)).bind fun t110 => (some (t110, decide (x5 > 0)))) else (none)) else ((muslinref03_Letter.f (bt x4 x5)).bind fun t111 => (if t111 = true then (muslinref16_Scheme.l0 k x4 (wrap64 (x5 + 1))) else (if x5 = 0 then (some ((⟨#[]⟩ : ByteArray), false)) else ((muslinref03_Digit.f (bt x4 x5)).bind fun t112 => (if t112 = true then (muslinref16_Scheme.l0 k x4 (wrap64 (x5 + 1))) else (if (bt x4 x5) = 43 then (muslinref16_Scheme.l0 k x4 (wrap64 (x5 + 1))) else (if (bt x4 x5) = 45 then (muslinref16_Scheme.l0 k x4 (wrap64 (x5 + 1))) else (if (bt x4 x5) = 46 then (muslinref16_Scheme.l0 k x4 (wrap64 (x5 + 1))) else (some ((⟨#[]⟩ : ByteArray), false))))))))))) else (none)) else (some ((⟨#[]⟩ : ByteArray), false))
def muslinref16_Scheme.f (k : Nat) (a0 : ByteArray) : Option (ByteArray × Bool) := (muslinref16_Clean.f k a0).bind fun t109 => (muslinref16_Scheme.l0 k t109 0)
set_option maxHeartbeats 8000000 in
set_option maxRecDepth 100000 in
theorem muslinref16_Scheme.calls (k : Nat) (a0 : ByteArray) (r1 : ByteArray) (r2 : Bool) (w : World) (h : muslinref16_Scheme.f k a0 = some (r1, r2)) :
    Calls Tryz.prog 47 #[.string a0] w fun e w' => e = .returned (.tuple #[.string r1, .bool r2]) ∧ Below w.heap.size w w' := by
  have HB := Aside0.mk (Below.refl w.heap.size w)
  have H : ((muslinref16_Clean.f k a0).bind fun t109 => (muslinref16_Scheme.l0 k t109 0)) = some (r1, r2) := h
  clear h
  replace H := Option.bind_eq_some_iff.mp H
  obtain ⟨t109, A20, H⟩ := H
  replace H : (muslinref16_Scheme.l0 k t109 0) = some (r1, r2) := H
  have A2 := Aside0.mk A20
  clear A20
  have H' := Aside0.mk H
  clear H
  go_enter Tryz.func47, Tryz.ntmps47
  go_wp2_with (first | ((with_reducible refine gate_callee (f := 32) rfl ?_); refine goesL_ (some 7) rfl rfl Tryz.func32 (by kernel_rfl) rfl #[.string a0] rfl (by (try simp only [List.map_toArray, List.map_cons, List.map_nil]); first | done | rfl | (simp only [List.length_drop, List.length_take]; rfl)) ?_; (with_reducible refine (muslinref16_Clean.calls k a0 t109 _ A2.out).mono ?_); rintro e w3 ⟨rfl, hb⟩; refine ⟨_, rfl, ?_⟩; have n0_ := Aside0.mk (below_step (by repeat (first | (with_reducible first | exact HB.out | apply below_alloc | apply pw_below_drewN | apply below_drew1) | exact HB.out)) hb); clear HB; have HB := n0_; clear n0_; (try clear hb); (try clear hb2); (try clear hk); (try clear hi)))
  go_loopg [5] k (fun kq v5 w' => ∃ (x5_1 : Int), v5 = .int .i64 x5_1 ∧ Aside0 (muslinref16_Scheme.l0 kq t109 x5_1 = some (r1, r2)) ∧ Aside0 (kq ≤ k) ∧ Aside0 (Below w.heap.size w w'))
  case atStart => exact ⟨(0), (by first | rfl | (simp; done) | (simp [*]; done)), H', ⟨Nat.le_refl _⟩, ⟨by repeat (first | (with_reducible first | exact HB.out | apply below_alloc | apply pw_below_drewN | apply below_drew1) | exact HB.out)⟩⟩
  case round =>
    clear H'
    try clear p2
    try clear c3
    obtain ⟨x5_1, rfl, HA, HK1, HB⟩ := hrel
    cases gk with
    | zero => exact absurd HA.out (by simp [muslinref16_Scheme.l0])
    | succ k1 =>
      have H := HA.out
      clear HA
      simp only [muslinref16_Scheme.l0] at H
      by_cases c4 : x5_1 < (t109.size : Int)
      · rw [if_pos c4] at H
        have c4b0 : decide (x5_1 < (t109.size : Int)) = true := decide_eq_true c4
        clear c4
        by_cases c5 : 0 ≤ x5_1
        · rw [if_pos c5] at H
          have c5b0 : decide (0 ≤ x5_1) = true := decide_eq_true c5
          clear c5
          by_cases c7 : (bt t109 x5_1) = 58
          · rw [if_pos c7] at H
            have c7b0 : ((bt t109 x5_1) == 58) = true := beq_iff_eq.mpr c7
            have c7b1 : ((bt t109 x5_1) != 58) = false := bne_eq_false_iff_eq.mpr c7
            clear c7
            have c8b0 := eq_true (of_decide_eq_true (by first | (with_reducible assumption) | assumption) : 0 ≤ x5_1)
            by_cases c9 : x5_1 ≤ (t109.size : Int)
            · rw [if_pos c9] at H
              have c9b0 := eq_true c9
              have c9b1 : decide (x5_1 ≤ (t109.size : Int)) = true := decide_eq_true c9
              clear c9
              replace H := Option.bind_eq_some_iff.mp H
              obtain ⟨t110, A100, H⟩ := H
              replace H : (some (t110, decide (x5_1 > 0))) = some (r1, r2) := H
              have A10 := Aside0.mk A100
              clear A100
              simp only [Option.some.injEq, Prod.mk.injEq] at H
              obtain ⟨rfl, rfl⟩ := H
              have p6 : 0 ≤ (x5_1 : Int) := of_decide_eq_true (by first | (with_reducible assumption) | assumption)
              have q6 : x5_1 < (t109.size : Int) := of_decide_eq_true (by first | (with_reducible assumption) | assumption)
              have hx6 := bt_at t109 x5_1
              replace p6 := eq_true p6
              replace q6 := eq_true q6
              go_wp2_with (first | ((with_reducible refine gate_callee (f := 76) rfl ?_); refine goesL_ (some 21) rfl rfl Tryz.func76 (by kernel_rfl) rfl #[.string (t109.extract 0 (x5_1 : Int).toNat)] rfl (by (try simp only [List.map_toArray, List.map_cons, List.map_nil]); first | done | rfl | (simp only [List.length_drop, List.length_take]; rfl)) ?_; (with_reducible refine (muslinref03_Small.calls k1 (t109.extract 0 (x5_1 : Int).toNat) t110 _ A10.out).mono ?_); rintro e w11 ⟨rfl, hb⟩; refine ⟨_, rfl, ?_⟩; have n0_ := Aside0.mk (below_step (by repeat (first | (with_reducible first | exact HB.out | apply below_alloc | apply pw_below_drewN | apply below_drew1) | exact HB.out)) hb); clear HB; have HB := n0_; clear n0_; (try clear hb); (try clear hb2); (try clear hk); (try clear hi)))
              go_ret2
              exact ⟨by first | rfl | (simp [errW_none, errW_some] <;> rfl) | (simp [*, errW_none, errW_some] <;> rfl), by repeat (first | (with_reducible first | exact HB.out | apply below_alloc | apply pw_below_drewN | apply below_drew1) | exact HB.out)⟩
            · rw [if_neg c9] at H
              exact absurd H (by simp)
          · rw [if_neg c7] at H
            have c7b0 : ((bt t109 x5_1) == 58) = false := beq_eq_false_iff_ne.mpr c7
            have c7b1 : ((bt t109 x5_1) != 58) = true := bne_iff_ne.mpr c7
            replace H := Option.bind_eq_some_iff.mp H
            obtain ⟨t111, A130, H⟩ := H
            replace H : (if t111 = true then (muslinref16_Scheme.l0 k1 t109 (wrap64 (x5_1 + 1))) else (if x5_1 = 0 then (some ((⟨#[]⟩ : ByteArray), false)) else ((muslinref03_Digit.f (bt t109 x5_1)).bind fun t112 => (if t112 = true then (muslinref16_Scheme.l0 k1 t109 (wrap64 (x5_1 + 1))) else (if (bt t109 x5_1) = 43 then (muslinref16_Scheme.l0 k1 t109 (wrap64 (x5_1 + 1))) else (if (bt t109 x5_1) = 45 then (muslinref16_Scheme.l0 k1 t109 (wrap64 (x5_1 + 1))) else (if (bt t109 x5_1) = 46 then (muslinref16_Scheme.l0 k1 t109 (wrap64 (x5_1 + 1))) else (some ((⟨#[]⟩ : ByteArray), false))))))))) = some (r1, r2) := H
            have A13 := Aside0.mk A130
            clear A130
            by_cases c14 : t111 = true
            · subst c14
              have H1 : (muslinref16_Scheme.l0 k1 t109 (wrap64 (x5_1 + 1))) = some (r1, r2) := by rw [if_pos rfl] at H; exact H
              clear H
              have H := H1
              clear H1
              have H' := Aside0.mk H
              clear H
              have p6 : 0 ≤ (x5_1 : Int) := of_decide_eq_true (by first | (with_reducible assumption) | assumption)
              have q6 : x5_1 < (t109.size : Int) := of_decide_eq_true (by first | (with_reducible assumption) | assumption)
              have hx6 := bt_at t109 x5_1
              replace p6 := eq_true p6
              replace q6 := eq_true q6
              have p12 : 0 ≤ (x5_1 : Int) := of_decide_eq_true (by first | (with_reducible assumption) | assumption)
              have q12 : x5_1 < (t109.size : Int) := of_decide_eq_true (by first | (with_reducible assumption) | assumption)
              have hx12 := bt_at t109 x5_1
              replace p12 := eq_true p12
              replace q12 := eq_true q12
              go_wp2_with (first | ((with_reducible refine gate_callee (f := 52) rfl ?_); refine goesL_ (some 27) rfl rfl Tryz.func52 (by kernel_rfl) rfl #[.int .u8 (bt t109 x5_1)] rfl (by (try simp only [List.map_toArray, List.map_cons, List.map_nil]); first | done | rfl | (simp only [List.length_drop, List.length_take]; rfl)) ?_; (with_reducible refine (muslinref03_Letter.calls (bt t109 x5_1) true _ A13.out).mono ?_); rintro e w' ⟨rfl, ⟨nd, rfl⟩⟩; refine ⟨_, rfl, ?_⟩))
              go_roundg k1
              case measure => have := HK1.out; omega
              case rel => exact ⟨(wrap64 (x5_1 + 1)), (by first | rfl | (simp; done) | (simp [*]; done)), H', ⟨by have := HK1.out; omega⟩, ⟨by repeat (first | (with_reducible first | exact HB.out | apply below_alloc | apply pw_below_drewN | apply below_drew1) | exact HB.out)⟩⟩
            · replace c14 := Bool.eq_false_iff.mpr c14
              subst c14
              have H1 : (if x5_1 = 0 then (some ((⟨#[]⟩ : ByteArray), false)) else ((muslinref03_Digit.f (bt t109 x5_1)).bind fun t112 => (if t112 = true then (muslinref16_Scheme.l0 k1 t109 (wrap64 (x5_1 + 1))) else (if (bt t109 x5_1) = 43 then (muslinref16_Scheme.l0 k1 t109 (wrap64 (x5_1 + 1))) else (if (bt t109 x5_1) = 45 then (muslinref16_Scheme.l0 k1 t109 (wrap64 (x5_1 + 1))) else (if (bt t109 x5_1) = 46 then (muslinref16_Scheme.l0 k1 t109 (wrap64 (x5_1 + 1))) else (some ((⟨#[]⟩ : ByteArray), false)))))))) = some (r1, r2) := by rw [if_neg (show ¬ (false = true) by decide)] at H; exact H
              clear H
              have H := H1
              clear H1
              by_cases c15 : x5_1 = 0
              · rw [if_pos c15] at H
                have c15b0 : (x5_1 == 0) = true := beq_iff_eq.mpr c15
                have c15b1 : (x5_1 != 0) = false := bne_eq_false_iff_eq.mpr c15
                clear c15
                simp only [Option.some.injEq, Prod.mk.injEq] at H
                obtain ⟨rfl, rfl⟩ := H
                have p6 : 0 ≤ (x5_1 : Int) := of_decide_eq_true (by first | (with_reducible assumption) | assumption)
                have q6 : x5_1 < (t109.size : Int) := of_decide_eq_true (by first | (with_reducible assumption) | assumption)
                have hx6 := bt_at t109 x5_1
                replace p6 := eq_true p6
                replace q6 := eq_true q6
                have p12 : 0 ≤ (x5_1 : Int) := of_decide_eq_true (by first | (with_reducible assumption) | assumption)
                have q12 : x5_1 < (t109.size : Int) := of_decide_eq_true (by first | (with_reducible assumption) | assumption)
                have hx12 := bt_at t109 x5_1
                replace p12 := eq_true p12
                replace q12 := eq_true q12
                go_wp2_with (first | ((with_reducible refine gate_callee (f := 52) rfl ?_); refine goesL_ (some 27) rfl rfl Tryz.func52 (by kernel_rfl) rfl #[.int .u8 (bt t109 x5_1)] rfl (by (try simp only [List.map_toArray, List.map_cons, List.map_nil]); first | done | rfl | (simp only [List.length_drop, List.length_take]; rfl)) ?_; (with_reducible refine (muslinref03_Letter.calls (bt t109 x5_1) false _ A13.out).mono ?_); rintro e w' ⟨rfl, ⟨nd, rfl⟩⟩; refine ⟨_, rfl, ?_⟩))
                go_ret2
                exact ⟨by first | rfl | (simp [errW_none, errW_some] <;> rfl) | (simp [*, errW_none, errW_some] <;> rfl), by repeat (first | (with_reducible first | exact HB.out | apply below_alloc | apply pw_below_drewN | apply below_drew1) | exact HB.out)⟩
              · rw [if_neg c15] at H
                have c15b0 : (x5_1 == 0) = false := beq_eq_false_iff_ne.mpr c15
                have c15b1 : (x5_1 != 0) = true := bne_iff_ne.mpr c15
                replace H := Option.bind_eq_some_iff.mp H
                obtain ⟨t112, A170, H⟩ := H
                replace H : (if t112 = true then (muslinref16_Scheme.l0 k1 t109 (wrap64 (x5_1 + 1))) else (if (bt t109 x5_1) = 43 then (muslinref16_Scheme.l0 k1 t109 (wrap64 (x5_1 + 1))) else (if (bt t109 x5_1) = 45 then (muslinref16_Scheme.l0 k1 t109 (wrap64 (x5_1 + 1))) else (if (bt t109 x5_1) = 46 then (muslinref16_Scheme.l0 k1 t109 (wrap64 (x5_1 + 1))) else (some ((⟨#[]⟩ : ByteArray), false)))))) = some (r1, r2) := H
                have A17 := Aside0.mk A170
                clear A170
                by_cases c18 : t112 = true
                · subst c18
                  have H1 : (muslinref16_Scheme.l0 k1 t109 (wrap64 (x5_1 + 1))) = some (r1, r2) := by rw [if_pos rfl] at H; exact H
                  clear H
                  have H := H1
                  clear H1
                  have H' := Aside0.mk H
                  clear H
                  have p6 : 0 ≤ (x5_1 : Int) := of_decide_eq_true (by first | (with_reducible assumption) | assumption)
                  have q6 : x5_1 < (t109.size : Int) := of_decide_eq_true (by first | (with_reducible assumption) | assumption)
                  have hx6 := bt_at t109 x5_1
                  replace p6 := eq_true p6
                  replace q6 := eq_true q6
                  have p12 : 0 ≤ (x5_1 : Int) := of_decide_eq_true (by first | (with_reducible assumption) | assumption)
                  have q12 : x5_1 < (t109.size : Int) := of_decide_eq_true (by first | (with_reducible assumption) | assumption)
                  have hx12 := bt_at t109 x5_1
                  replace p12 := eq_true p12
                  replace q12 := eq_true q12
                  go_wp2_with (first | ((with_reducible refine gate_callee (f := 52) rfl ?_); refine goesL_ (some 27) rfl rfl Tryz.func52 (by kernel_rfl) rfl #[.int .u8 (bt t109 x5_1)] rfl (by (try simp only [List.map_toArray, List.map_cons, List.map_nil]); first | done | rfl | (simp only [List.length_drop, List.length_take]; rfl)) ?_; (with_reducible refine (muslinref03_Letter.calls (bt t109 x5_1) false _ A13.out).mono ?_); rintro e w' ⟨rfl, ⟨nd, rfl⟩⟩; refine ⟨_, rfl, ?_⟩; have p16 : 0 ≤ (x5_1 : Int) := of_decide_eq_true (by first | (with_reducible assumption) | assumption); have q16 : x5_1 < (t109.size : Int) := of_decide_eq_true (by first | (with_reducible assumption) | assumption); have hx16 := bt_at t109 x5_1; replace p16 := eq_true p16; replace q16 := eq_true q16) | (go_at_call 53; (with_reducible refine (muslinref03_Digit.calls (bt t109 x5_1) true _ A17.out).mono ?_); rintro e w' ⟨rfl, ⟨nd, rfl⟩⟩))
                  go_roundg k1
                  case measure => have := HK1.out; omega
                  case rel => exact ⟨(wrap64 (x5_1 + 1)), (by first | rfl | (simp; done) | (simp [*]; done)), H', ⟨by have := HK1.out; omega⟩, ⟨by repeat (first | (with_reducible first | exact HB.out | apply below_alloc | apply pw_below_drewN | apply below_drew1) | exact HB.out)⟩⟩
                · replace c18 := Bool.eq_false_iff.mpr c18
                  subst c18
                  have H1 : (if (bt t109 x5_1) = 43 then (muslinref16_Scheme.l0 k1 t109 (wrap64 (x5_1 + 1))) else (if (bt t109 x5_1) = 45 then (muslinref16_Scheme.l0 k1 t109 (wrap64 (x5_1 + 1))) else (if (bt t109 x5_1) = 46 then (muslinref16_Scheme.l0 k1 t109 (wrap64 (x5_1 + 1))) else (some ((⟨#[]⟩ : ByteArray), false))))) = some (r1, r2) := by rw [if_neg (show ¬ (false = true) by decide)] at H; exact H
                  clear H
                  have H := H1
                  clear H1
                  by_cases c20 : (bt t109 x5_1) = 43
                  · rw [if_pos c20] at H
                    have c20b0 : ((bt t109 x5_1) == 43) = true := beq_iff_eq.mpr c20
                    have c20b1 : ((bt t109 x5_1) != 43) = false := bne_eq_false_iff_eq.mpr c20
                    clear c20
                    have H' := Aside0.mk H
                    clear H
                    have p6 : 0 ≤ (x5_1 : Int) := of_decide_eq_true (by first | (with_reducible assumption) | assumption)
                    have q6 : x5_1 < (t109.size : Int) := of_decide_eq_true (by first | (with_reducible assumption) | assumption)
                    have hx6 := bt_at t109 x5_1
                    replace p6 := eq_true p6
                    replace q6 := eq_true q6
                    have p12 : 0 ≤ (x5_1 : Int) := of_decide_eq_true (by first | (with_reducible assumption) | assumption)
                    have q12 : x5_1 < (t109.size : Int) := of_decide_eq_true (by first | (with_reducible assumption) | assumption)
                    have hx12 := bt_at t109 x5_1
                    replace p12 := eq_true p12
                    replace q12 := eq_true q12
                    go_wp2_with (first | ((with_reducible refine gate_callee (f := 52) rfl ?_); refine goesL_ (some 27) rfl rfl Tryz.func52 (by kernel_rfl) rfl #[.int .u8 (bt t109 x5_1)] rfl (by (try simp only [List.map_toArray, List.map_cons, List.map_nil]); first | done | rfl | (simp only [List.length_drop, List.length_take]; rfl)) ?_; (with_reducible refine (muslinref03_Letter.calls (bt t109 x5_1) false _ A13.out).mono ?_); rintro e w' ⟨rfl, ⟨nd, rfl⟩⟩; refine ⟨_, rfl, ?_⟩; have p16 : 0 ≤ (x5_1 : Int) := of_decide_eq_true (by first | (with_reducible assumption) | assumption); have q16 : x5_1 < (t109.size : Int) := of_decide_eq_true (by first | (with_reducible assumption) | assumption); have hx16 := bt_at t109 x5_1; replace p16 := eq_true p16; replace q16 := eq_true q16) | (go_at_call 53; (with_reducible refine (muslinref03_Digit.calls (bt t109 x5_1) false _ A17.out).mono ?_); rintro e w' ⟨rfl, ⟨nd, rfl⟩⟩; have p19 : 0 ≤ (x5_1 : Int) := of_decide_eq_true (by first | (with_reducible assumption) | assumption); have q19 : x5_1 < (t109.size : Int) := of_decide_eq_true (by first | (with_reducible assumption) | assumption); have hx19 := bt_at t109 x5_1; replace p19 := eq_true p19; replace q19 := eq_true q19))
                    go_roundg k1
                    case measure => have := HK1.out; omega
                    case rel => exact ⟨(wrap64 (x5_1 + 1)), (by first | rfl | (simp; done) | (simp [*]; done)), H', ⟨by have := HK1.out; omega⟩, ⟨by repeat (first | (with_reducible first | exact HB.out | apply below_alloc | apply pw_below_drewN | apply below_drew1) | exact HB.out)⟩⟩
                  · rw [if_neg c20] at H
                    have c20b0 : ((bt t109 x5_1) == 43) = false := beq_eq_false_iff_ne.mpr c20
                    have c20b1 : ((bt t109 x5_1) != 43) = true := bne_iff_ne.mpr c20
                    by_cases c22 : (bt t109 x5_1) = 45
                    · rw [if_pos c22] at H
                      have c22b0 : ((bt t109 x5_1) == 45) = true := beq_iff_eq.mpr c22
                      have c22b1 : ((bt t109 x5_1) != 45) = false := bne_eq_false_iff_eq.mpr c22
                      clear c22
                      have H' := Aside0.mk H
                      clear H
                      have p6 : 0 ≤ (x5_1 : Int) := of_decide_eq_true (by first | (with_reducible assumption) | assumption)
                      have q6 : x5_1 < (t109.size : Int) := of_decide_eq_true (by first | (with_reducible assumption) | assumption)
                      have hx6 := bt_at t109 x5_1
                      replace p6 := eq_true p6
                      replace q6 := eq_true q6
                      have p12 : 0 ≤ (x5_1 : Int) := of_decide_eq_true (by first | (with_reducible assumption) | assumption)
                      have q12 : x5_1 < (t109.size : Int) := of_decide_eq_true (by first | (with_reducible assumption) | assumption)
                      have hx12 := bt_at t109 x5_1
                      replace p12 := eq_true p12
                      replace q12 := eq_true q12
                      go_wp2_with (first | ((with_reducible refine gate_callee (f := 52) rfl ?_); refine goesL_ (some 27) rfl rfl Tryz.func52 (by kernel_rfl) rfl #[.int .u8 (bt t109 x5_1)] rfl (by (try simp only [List.map_toArray, List.map_cons, List.map_nil]); first | done | rfl | (simp only [List.length_drop, List.length_take]; rfl)) ?_; (with_reducible refine (muslinref03_Letter.calls (bt t109 x5_1) false _ A13.out).mono ?_); rintro e w' ⟨rfl, ⟨nd, rfl⟩⟩; refine ⟨_, rfl, ?_⟩; have p16 : 0 ≤ (x5_1 : Int) := of_decide_eq_true (by first | (with_reducible assumption) | assumption); have q16 : x5_1 < (t109.size : Int) := of_decide_eq_true (by first | (with_reducible assumption) | assumption); have hx16 := bt_at t109 x5_1; replace p16 := eq_true p16; replace q16 := eq_true q16) | (go_at_call 53; (with_reducible refine (muslinref03_Digit.calls (bt t109 x5_1) false _ A17.out).mono ?_); rintro e w' ⟨rfl, ⟨nd, rfl⟩⟩; have p19 : 0 ≤ (x5_1 : Int) := of_decide_eq_true (by first | (with_reducible assumption) | assumption); have q19 : x5_1 < (t109.size : Int) := of_decide_eq_true (by first | (with_reducible assumption) | assumption); have hx19 := bt_at t109 x5_1; replace p19 := eq_true p19; replace q19 := eq_true q19; have p21 : 0 ≤ (x5_1 : Int) := of_decide_eq_true (by first | (with_reducible assumption) | assumption); have q21 : x5_1 < (t109.size : Int) := of_decide_eq_true (by first | (with_reducible assumption) | assumption); have hx21 := bt_at t109 x5_1; replace p21 := eq_true p21; replace q21 := eq_true q21))
                      go_roundg k1
                      case measure => have := HK1.out; omega
                      case rel => exact ⟨(wrap64 (x5_1 + 1)), (by first | rfl | (simp; done) | (simp [*]; done)), H', ⟨by have := HK1.out; omega⟩, ⟨by repeat (first | (with_reducible first | exact HB.out | apply below_alloc | apply pw_below_drewN | apply below_drew1) | exact HB.out)⟩⟩
                    · rw [if_neg c22] at H
                      have c22b0 : ((bt t109 x5_1) == 45) = false := beq_eq_false_iff_ne.mpr c22
                      have c22b1 : ((bt t109 x5_1) != 45) = true := bne_iff_ne.mpr c22
                      by_cases c24 : (bt t109 x5_1) = 46
                      · rw [if_pos c24] at H
                        have c24b0 : ((bt t109 x5_1) == 46) = true := beq_iff_eq.mpr c24
                        have c24b1 : ((bt t109 x5_1) != 46) = false := bne_eq_false_iff_eq.mpr c24
                        clear c24
                        have H' := Aside0.mk H
                        clear H
                        have p6 : 0 ≤ (x5_1 : Int) := of_decide_eq_true (by first | (with_reducible assumption) | assumption)
                        have q6 : x5_1 < (t109.size : Int) := of_decide_eq_true (by first | (with_reducible assumption) | assumption)
                        have hx6 := bt_at t109 x5_1
                        replace p6 := eq_true p6
                        replace q6 := eq_true q6
                        have p12 : 0 ≤ (x5_1 : Int) := of_decide_eq_true (by first | (with_reducible assumption) | assumption)
                        have q12 : x5_1 < (t109.size : Int) := of_decide_eq_true (by first | (with_reducible assumption) | assumption)
                        have hx12 := bt_at t109 x5_1
                        replace p12 := eq_true p12
                        replace q12 := eq_true q12
                        go_wp2_with (first | ((with_reducible refine gate_callee (f := 52) rfl ?_); refine goesL_ (some 27) rfl rfl Tryz.func52 (by kernel_rfl) rfl #[.int .u8 (bt t109 x5_1)] rfl (by (try simp only [List.map_toArray, List.map_cons, List.map_nil]); first | done | rfl | (simp only [List.length_drop, List.length_take]; rfl)) ?_; (with_reducible refine (muslinref03_Letter.calls (bt t109 x5_1) false _ A13.out).mono ?_); rintro e w' ⟨rfl, ⟨nd, rfl⟩⟩; refine ⟨_, rfl, ?_⟩; have p16 : 0 ≤ (x5_1 : Int) := of_decide_eq_true (by first | (with_reducible assumption) | assumption); have q16 : x5_1 < (t109.size : Int) := of_decide_eq_true (by first | (with_reducible assumption) | assumption); have hx16 := bt_at t109 x5_1; replace p16 := eq_true p16; replace q16 := eq_true q16) | (go_at_call 53; (with_reducible refine (muslinref03_Digit.calls (bt t109 x5_1) false _ A17.out).mono ?_); rintro e w' ⟨rfl, ⟨nd, rfl⟩⟩; have p19 : 0 ≤ (x5_1 : Int) := of_decide_eq_true (by first | (with_reducible assumption) | assumption); have q19 : x5_1 < (t109.size : Int) := of_decide_eq_true (by first | (with_reducible assumption) | assumption); have hx19 := bt_at t109 x5_1; replace p19 := eq_true p19; replace q19 := eq_true q19; have p21 : 0 ≤ (x5_1 : Int) := of_decide_eq_true (by first | (with_reducible assumption) | assumption); have q21 : x5_1 < (t109.size : Int) := of_decide_eq_true (by first | (with_reducible assumption) | assumption); have hx21 := bt_at t109 x5_1; replace p21 := eq_true p21; replace q21 := eq_true q21; have p23 : 0 ≤ (x5_1 : Int) := of_decide_eq_true (by first | (with_reducible assumption) | assumption); have q23 : x5_1 < (t109.size : Int) := of_decide_eq_true (by first | (with_reducible assumption) | assumption); have hx23 := bt_at t109 x5_1; replace p23 := eq_true p23; replace q23 := eq_true q23))
                        go_roundg k1
                        case measure => have := HK1.out; omega
                        case rel => exact ⟨(wrap64 (x5_1 + 1)), (by first | rfl | (simp; done) | (simp [*]; done)), H', ⟨by have := HK1.out; omega⟩, ⟨by repeat (first | (with_reducible first | exact HB.out | apply below_alloc | apply pw_below_drewN | apply below_drew1) | exact HB.out)⟩⟩
                      · rw [if_neg c24] at H
                        have c24b0 : ((bt t109 x5_1) == 46) = false := beq_eq_false_iff_ne.mpr c24
                        have c24b1 : ((bt t109 x5_1) != 46) = true := bne_iff_ne.mpr c24
                        simp only [Option.some.injEq, Prod.mk.injEq] at H
                        obtain ⟨rfl, rfl⟩ := H
                        have p6 : 0 ≤ (x5_1 : Int) := of_decide_eq_true (by first | (with_reducible assumption) | assumption)
                        have q6 : x5_1 < (t109.size : Int) := of_decide_eq_true (by first | (with_reducible assumption) | assumption)
                        have hx6 := bt_at t109 x5_1
                        replace p6 := eq_true p6
                        replace q6 := eq_true q6
                        have p12 : 0 ≤ (x5_1 : Int) := of_decide_eq_true (by first | (with_reducible assumption) | assumption)
                        have q12 : x5_1 < (t109.size : Int) := of_decide_eq_true (by first | (with_reducible assumption) | assumption)
                        have hx12 := bt_at t109 x5_1
                        replace p12 := eq_true p12
                        replace q12 := eq_true q12
                        go_wp2_with (first | ((with_reducible refine gate_callee (f := 52) rfl ?_); refine goesL_ (some 27) rfl rfl Tryz.func52 (by kernel_rfl) rfl #[.int .u8 (bt t109 x5_1)] rfl (by (try simp only [List.map_toArray, List.map_cons, List.map_nil]); first | done | rfl | (simp only [List.length_drop, List.length_take]; rfl)) ?_; (with_reducible refine (muslinref03_Letter.calls (bt t109 x5_1) false _ A13.out).mono ?_); rintro e w' ⟨rfl, ⟨nd, rfl⟩⟩; refine ⟨_, rfl, ?_⟩; have p16 : 0 ≤ (x5_1 : Int) := of_decide_eq_true (by first | (with_reducible assumption) | assumption); have q16 : x5_1 < (t109.size : Int) := of_decide_eq_true (by first | (with_reducible assumption) | assumption); have hx16 := bt_at t109 x5_1; replace p16 := eq_true p16; replace q16 := eq_true q16) | (go_at_call 53; (with_reducible refine (muslinref03_Digit.calls (bt t109 x5_1) false _ A17.out).mono ?_); rintro e w' ⟨rfl, ⟨nd, rfl⟩⟩; have p19 : 0 ≤ (x5_1 : Int) := of_decide_eq_true (by first | (with_reducible assumption) | assumption); have q19 : x5_1 < (t109.size : Int) := of_decide_eq_true (by first | (with_reducible assumption) | assumption); have hx19 := bt_at t109 x5_1; replace p19 := eq_true p19; replace q19 := eq_true q19; have p21 : 0 ≤ (x5_1 : Int) := of_decide_eq_true (by first | (with_reducible assumption) | assumption); have q21 : x5_1 < (t109.size : Int) := of_decide_eq_true (by first | (with_reducible assumption) | assumption); have hx21 := bt_at t109 x5_1; replace p21 := eq_true p21; replace q21 := eq_true q21; have p23 : 0 ≤ (x5_1 : Int) := of_decide_eq_true (by first | (with_reducible assumption) | assumption); have q23 : x5_1 < (t109.size : Int) := of_decide_eq_true (by first | (with_reducible assumption) | assumption); have hx23 := bt_at t109 x5_1; replace p23 := eq_true p23; replace q23 := eq_true q23))
                        go_ret2
                        exact ⟨by first | rfl | (simp [errW_none, errW_some] <;> rfl) | (simp [*, errW_none, errW_some] <;> rfl), by repeat (first | (with_reducible first | exact HB.out | apply below_alloc | apply pw_below_drewN | apply below_drew1) | exact HB.out)⟩
        · rw [if_neg c5] at H
          exact absurd H (by simp)
      · rw [if_neg c4] at H
        have c4b0 : decide (x5_1 < (t109.size : Int)) = false := decide_eq_false c4
        clear c4
        simp only [Option.some.injEq, Prod.mk.injEq] at H
        obtain ⟨rfl, rfl⟩ := H
        go_wp2
        go_ret2
        exact ⟨by first | rfl | (simp [errW_none, errW_some] <;> rfl) | (simp [*, errW_none, errW_some] <;> rfl), by repeat (first | (with_reducible first | exact HB.out | apply below_alloc | apply pw_below_drewN | apply below_drew1) | exact HB.out)⟩
end Go.Proofs.YtchooidhieaphaaGreatDoor.PQ
