/- The document's Cut, walked (a program wrote this text out of the translation): it returns what its plain function says. -/
import Derived.Test.YtchooidhieaphaaGreatDoorQScheme
import Derived.Test.YtchooidhieaphaaGreatDoorR7
import Derived.Test.YtchooidhieaphaaGreatDoorR8
namespace Go.Proofs.YtchooidhieaphaaGreatDoor.PQ
open Go.RowKit Go.Proofs.YtchooidhieaphaaGreatDoor.PRulesValues Go.Proofs.YtchooidhieaphaaGreatDoorW.PrintWords Go.Proofs.YtchooidhieaphaaGreatDoorW.PrintLast Go.Proofs.YtchooidhieaphaaGreatDoorW.PrintMore
set_option linter.unusedVariables false
set_option linter.unusedSimpArgs false
theorem info63 : (Tryz.prog.info? 63).map (fun i => (i.zero, i.size, i.bytes)) = some (some (.agg #[(.string ⟨#[]⟩), (.string ⟨#[]⟩)]), 2, 32) := by kernel_rfl
structure S63 where
  f0 : ByteArray
  f1 : ByteArray
def z63 : S63 := ⟨(⟨#[]⟩ : ByteArray), (⟨#[]⟩ : ByteArray)⟩
def k63 : Kd S63 := Kd.iso (Kd.pair Kd.string Kd.string) (fun x : S63 => (x.f0, x.f1))
theorem k63_open {w : World} {x : S63} {cs : List Value} (h : k63.K w x cs) : cs = [.string x.f0, .string x.f1] := by
  obtain ⟨_, _, rfl, rfl, rfl⟩ := h
  exact rfl
theorem k63_mkM (w : World) (base : Nat) (ok : Nat → Prop) (x : S63)  : k63.M w base ok x [.string x.f0, .string x.f1] := ⟨[.string x.f0], [.string x.f1], rfl, rfl, rfl⟩
def rd_T63 (xs : List S63) (i : Int) : S63 := xs.getD i.toNat z63
theorem at_T63 {w : World} {A : Option Addr} {n : Nat} {xs : List S63} (h : Kd.C k63 w A n xs) (i : Int) (h0 : 0 ≤ i) (h1 : i < n) : ∃ ad , A = some ad ∧ w.cell? (ad.add (i.toNat * 2)) = some (.string (rd_T63 xs i).f0) ∧ w.cell? ⟨(ad.add (i.toNat * 2)).block, (ad.add (i.toNat * 2)).off + 1, none⟩ = some (.string (rd_T63 xs i).f1) := by
  obtain ⟨ad, c, e, _, hK, hc0⟩ := Kd.C_get h z63 i h0 h1
  have hc : ∀ j u, c[j]? = some u → w.cell? (ad.add (i.toNat * 2 + j)) = some u := hc0
  obtain rfl := k63_open hK
  exact ⟨ad, e, hc 0 _ rfl, by rw [← add_field _ _ 1 (by omega)]; exact hc 1 _ rfl⟩
mutual
def muslinref17_Cut.l0 : Nat → List ByteArray → List (S63) → Int → Option ((List (S63)))
  | 0, _, _, _ => none
  | k + 1, x3, x4, x5 => if x5 < (x3.length : Int) then (muslinref17_Cut.l1 k x3 x4 x5 0) else (some x4)
def muslinref17_Cut.l1 : Nat → List ByteArray → List (S63) → Int → Int → Option ((List (S63)))
  | 0, _, _, _, _ => none
  | k + 1, x3, x4, x5, x6 => if 0 ≤ x5 then (if x5 < (x3.length : Int) then (if x6 < ((rdOf ByteArray.empty x3 x5).size : Int) then (if 0 ≤ x6 then (if (bt (rdOf ByteArray.empty x3 x5) x6) = 58 then (if x6 ≤ ((rdOf ByteArray.empty x3 x5).size : Int) then ((muslinref17_trim.f k ((rdOf ByteArray.empty x3 x5).extract 0 (x6 : Int).toNat)).bind fun t147 => ((muslinref03_Small.f k t147).bind fun t148 => (if 0 ≤ (wrap64 (x6 + 1)) then (if (wrap64 (x6 + 1)) ≤ ((rdOf ByteArray.empty x3 x5).size : Int) then ((muslinref17_trim.f k ((rdOf ByteArray.empty x3 x5).extract ((wrap64 (x6 + 1)) : Int).toNat (rdOf ByteArray.empty x3 x5).size)).bind fun t150 => (if t148.toList = ([] : List UInt8) then (muslinref17_Cut.l0 k x3 x4 (wrap64 (x5 + 1))) else (if t150.toList = ([] : List UInt8) then (muslinref17_Cut.l0 k x3 x4 (wrap64 (x5 + 1))) else (if x4.length < 4398046511104 then (muslinref17_Cut.l0 k x3 (x4 ++ [(⟨t148, t150⟩ : S63)]) (wrap64 (x5 + 1))) else (none))))) else (none)) else (none)))) else (none)) else (muslinref17_Cut.l1 k x3 x4 x5 (wrap64 (x6 + 1)))) else (none)) else (muslinref17_Cut.l0 k x3 x4 (wrap64 (x5 + 1)))) else (none)) else (none)
end
def muslinref17_Cut.f (k : Nat) (a0 : ByteArray) : Option ((List (S63))) := (muslinref17_pieces.f k a0).bind fun t141 => (muslinref17_Cut.l0 k t141 ([] : List (S63)) 0)
set_option maxHeartbeats 8000000 in
set_option maxRecDepth 100000 in
theorem muslinref17_Cut.calls (k : Nat) (a0 : ByteArray) (r : List (S63)) (w : World) (h : muslinref17_Cut.f k a0 = some r) :
    Calls Tryz.prog 50 #[.string a0] w fun e w' => ∃ v0_ : Value, e = .returned (v0_) ∧ Kd.R k63 63 w' w.heap.size (fun _ => True) v0_ r ∧ Below w.heap.size w w' := by
  have hu63 := Tryz.underlying63
  have HB := Aside0.mk (Below.refl w.heap.size w)
  have H : ((muslinref17_pieces.f k a0).bind fun t141 => (muslinref17_Cut.l0 k t141 ([] : List (S63)) 0)) = some r := h
  clear h
  replace H := Option.bind_eq_some_iff.mp H
  obtain ⟨t141, A20, H⟩ := H
  replace H : (muslinref17_Cut.l0 k t141 ([] : List (S63)) 0) = some r := H
  have A2 := Aside0.mk A20
  clear A20
  have H' := Aside0.mk H
  clear H
  go_enter Tryz.func50, Tryz.ntmps50
  go_wp2_with (first | ((with_reducible refine gate_callee (f := 77) rfl ?_); refine goesL_ (some 10) rfl rfl Tryz.func77 (by kernel_rfl) rfl #[.string a0] rfl (by (try simp only [List.map_toArray, List.map_cons, List.map_nil]); first | done | rfl | (simp only [List.length_drop, List.length_take]; rfl)) ?_; (with_reducible refine (muslinref17_pieces.calls k a0 t141 _ A2.out).mono ?_); rintro e w3 ⟨v142, rfl, ho0, hb⟩; refine ⟨_, rfl, ?_⟩; have n0_ := Aside0.mk (Kd.R_lower ho0 (below_size (by repeat (first | (with_reducible first | exact HB.out | apply below_alloc | apply pw_below_drewN | apply below_drew1) | exact HB.out)))); have n1_ := Aside0.mk (below_step (by repeat (first | (with_reducible first | exact HB.out | apply below_alloc | apply pw_below_drewN | apply below_drew1) | exact HB.out)) hb); clear HB; have HO143 := n0_; have HB := n1_; clear n0_ n1_; (try clear hb); (try clear hb2); (try clear hk); (try clear hi); (try clear ho0)))
  go_loopg [4, 5] k (fun kq v4 v5 w' => ∃ (x4_1 : List (S63)) (x5_1 : Int), v5 = .int .i64 x5_1 ∧ Aside0 (muslinref17_Cut.l0 kq t141 x4_1 x5_1 = some r) ∧ Aside0 (kq ≤ k) ∧ Aside0 (Kd.R Kd.string 9 w' w.heap.size (fun _ => True) v142 t141) ∧ Aside0 (Kd.R k63 63 w' w.heap.size (fun _ => True) v4 x4_1) ∧ Aside0 (Below w.heap.size w w'))
  case atStart => exact ⟨(([] : List (S63))), (0), (by first | rfl | (simp; done) | (simp [*]; done)), H', ⟨Nat.le_refl _⟩, ⟨by (with_reducible repeat (first | apply Kd.R_alloc | apply Kd.R_drewN | apply Kd.R_drew)); exact HO143.out⟩, ⟨by first | exact Kd.R_nil _ _ _ _ _ | exact Kd.N_nil _ _ _ _ _ | exact Kd.V_nil _ _ _ _ _ | exact Kd.Q_nil _ _ _ _ _ | exact Kd.S_nil _ _ _ _ _⟩, ⟨by repeat (first | (with_reducible first | exact HB.out | apply below_alloc | apply pw_below_drewN | apply below_drew1) | exact HB.out)⟩⟩
  case round =>
    clear H'
    try clear p2
    obtain ⟨x4_1, x5_1, rfl, HA, HK1, HO_3, HO_4, HB⟩ := hrel
    cases gk with
    | zero => exact absurd HA.out (by simp [muslinref17_Cut.l0])
    | succ k1 =>
      have H := HA.out
      clear HA
      simp only [muslinref17_Cut.l0] at H
      by_cases c4 : x5_1 < (t141.length : Int)
      · rw [if_pos c4] at H
        have c4b0 : decide (x5_1 < (t141.length : Int)) = true := decide_eq_true c4
        clear c4
        have H' := Aside0.mk H
        clear H
        obtain ⟨Ao5, co5, eo5⟩ := Kd.R_slice HO_3.out
        subst eo5
        go_wp2
        go_loopg [4, 6] k1 (fun kq v4 v6 w' => ∃ (x4_2 : List (S63)) (x6_2 : Int), v6 = .int .i64 x6_2 ∧ Aside0 (muslinref17_Cut.l1 kq t141 x4_2 x5_1 x6_2 = some r) ∧ Aside0 (kq ≤ k1) ∧ Aside0 (Kd.R Kd.string 9 w' w.heap.size (fun _ => True) (.slice Ao5 t141.length co5) t141) ∧ Aside0 (Kd.R k63 63 w' w.heap.size (fun _ => True) v4 x4_2) ∧ Aside0 (Below w.heap.size w w'))
        case atStart => exact ⟨(x4_1), (0), (by first | rfl | (simp; done) | (simp [*]; done)), H', ⟨Nat.le_refl _⟩, ⟨by (with_reducible repeat (first | apply Kd.R_alloc | apply Kd.R_drewN | apply Kd.R_drew)); exact HO_3.out⟩, ⟨by (with_reducible repeat (first | apply Kd.R_alloc | apply Kd.R_drewN | apply Kd.R_drew)); exact HO_4.out⟩, ⟨by repeat (first | (with_reducible first | exact HB.out | apply below_alloc | apply pw_below_drewN | apply below_drew1) | exact HB.out)⟩⟩
        case round =>
          clear H'
          try clear p2
          try clear c4
          try clear c4b0
          try clear c5
          try clear p2
          obtain ⟨x4_2, x6_2, rfl, HA, HK2, HO_3, HO_4, HB⟩ := hrel
          cases gk with
          | zero => exact absurd HA.out (by simp [muslinref17_Cut.l1])
          | succ k2 =>
            have H := HA.out
            clear HA
            simp only [muslinref17_Cut.l1] at H
            by_cases c6 : 0 ≤ x5_1
            · rw [if_pos c6] at H
              have c6b0 : decide (0 ≤ x5_1) = true := decide_eq_true c6
              clear c6
              by_cases c7 : x5_1 < (t141.length : Int)
              · rw [if_pos c7] at H
                have c7b0 : decide (x5_1 < (t141.length : Int)) = true := decide_eq_true c7
                clear c7
                by_cases c8 : x6_2 < ((rdOf ByteArray.empty t141 x5_1).size : Int)
                · rw [if_pos c8] at H
                  have c8b0 : decide (x6_2 < ((rdOf ByteArray.empty t141 x5_1).size : Int)) = true := decide_eq_true c8
                  clear c8
                  by_cases c9 : 0 ≤ x6_2
                  · rw [if_pos c9] at H
                    have c9b0 : decide (0 ≤ x6_2) = true := decide_eq_true c9
                    clear c9
                    by_cases c11 : (bt (rdOf ByteArray.empty t141 x5_1) x6_2) = 58
                    · rw [if_pos c11] at H
                      have c11b0 : ((bt (rdOf ByteArray.empty t141 x5_1) x6_2) == 58) = true := beq_iff_eq.mpr c11
                      have c11b1 : ((bt (rdOf ByteArray.empty t141 x5_1) x6_2) != 58) = false := bne_eq_false_iff_eq.mpr c11
                      clear c11
                      have c12b0 := eq_true (of_decide_eq_true (by first | (with_reducible assumption) | assumption) : 0 ≤ x6_2)
                      by_cases c13 : x6_2 ≤ ((rdOf ByteArray.empty t141 x5_1).size : Int)
                      · rw [if_pos c13] at H
                        have c13b0 := eq_true c13
                        have c13b1 : decide (x6_2 ≤ ((rdOf ByteArray.empty t141 x5_1).size : Int)) = true := decide_eq_true c13
                        clear c13
                        replace H := Option.bind_eq_some_iff.mp H
                        obtain ⟨t147, A140, H⟩ := H
                        replace H : ((muslinref03_Small.f k2 t147).bind fun t148 => (if 0 ≤ (wrap64 (x6_2 + 1)) then (if (wrap64 (x6_2 + 1)) ≤ ((rdOf ByteArray.empty t141 x5_1).size : Int) then ((muslinref17_trim.f k2 ((rdOf ByteArray.empty t141 x5_1).extract ((wrap64 (x6_2 + 1)) : Int).toNat (rdOf ByteArray.empty t141 x5_1).size)).bind fun t150 => (if t148.toList = ([] : List UInt8) then (muslinref17_Cut.l0 k2 t141 x4_2 (wrap64 (x5_1 + 1))) else (if t150.toList = ([] : List UInt8) then (muslinref17_Cut.l0 k2 t141 x4_2 (wrap64 (x5_1 + 1))) else (if x4_2.length < 4398046511104 then (muslinref17_Cut.l0 k2 t141 (x4_2 ++ [(⟨t148, t150⟩ : S63)]) (wrap64 (x5_1 + 1))) else (none))))) else (none)) else (none))) = some r := H
                        have A14 := Aside0.mk A140
                        clear A140
                        replace H := Option.bind_eq_some_iff.mp H
                        obtain ⟨t148, A150, H⟩ := H
                        replace H : (if 0 ≤ (wrap64 (x6_2 + 1)) then (if (wrap64 (x6_2 + 1)) ≤ ((rdOf ByteArray.empty t141 x5_1).size : Int) then ((muslinref17_trim.f k2 ((rdOf ByteArray.empty t141 x5_1).extract ((wrap64 (x6_2 + 1)) : Int).toNat (rdOf ByteArray.empty t141 x5_1).size)).bind fun t150 => (if t148.toList = ([] : List UInt8) then (muslinref17_Cut.l0 k2 t141 x4_2 (wrap64 (x5_1 + 1))) else (if t150.toList = ([] : List UInt8) then (muslinref17_Cut.l0 k2 t141 x4_2 (wrap64 (x5_1 + 1))) else (if x4_2.length < 4398046511104 then (muslinref17_Cut.l0 k2 t141 (x4_2 ++ [(⟨t148, t150⟩ : S63)]) (wrap64 (x5_1 + 1))) else (none))))) else (none)) else (none)) = some r := H
                        have A15 := Aside0.mk A150
                        clear A150
                        obtain ⟨ji16, hji16⟩ : ∃ j_ : Int, (wrap64 (x6_2 + 1)) = j_ := ⟨_, rfl⟩
                        replace H : (if 0 ≤ (ji16) then (if (ji16) ≤ ((rdOf ByteArray.empty t141 x5_1).size : Int) then ((muslinref17_trim.f k2 ((rdOf ByteArray.empty t141 x5_1).extract ((ji16) : Int).toNat (rdOf ByteArray.empty t141 x5_1).size)).bind fun t150 => (if t148.toList = ([] : List UInt8) then (muslinref17_Cut.l0 k2 t141 x4_2 (wrap64 (x5_1 + 1))) else (if t150.toList = ([] : List UInt8) then (muslinref17_Cut.l0 k2 t141 x4_2 (wrap64 (x5_1 + 1))) else (if x4_2.length < 4398046511104 then (muslinref17_Cut.l0 k2 t141 (x4_2 ++ [(⟨t148, t150⟩ : S63)]) (wrap64 (x5_1 + 1))) else (none))))) else (none)) else (none)) = some r := by first | (rw [hji16] at H; exact H) | (simp only [hji16] at H ⊢; exact H)
                        (try rw [hji16] at A14)
                        (try rw [hji16] at A15)
                        have hji16w : (IntKind.i64.wrap (x6_2 + 1)) = ji16 := (i64_w _).trans hji16
                        by_cases c17 : 0 ≤ (ji16)
                        · rw [if_pos c17] at H
                          have c17b0 := eq_true c17
                          have c17b1 : decide (0 ≤ (ji16)) = true := decide_eq_true c17
                          clear c17
                          by_cases c18 : (ji16) ≤ ((rdOf ByteArray.empty t141 x5_1).size : Int)
                          · rw [if_pos c18] at H
                            have c18b0 := eq_true c18
                            have c18b1 : decide ((ji16) ≤ ((rdOf ByteArray.empty t141 x5_1).size : Int)) = true := decide_eq_true c18
                            clear c18
                            replace H := Option.bind_eq_some_iff.mp H
                            obtain ⟨t150, A190, H⟩ := H
                            replace H : (if t148.toList = ([] : List UInt8) then (muslinref17_Cut.l0 k2 t141 x4_2 (wrap64 (x5_1 + 1))) else (if t150.toList = ([] : List UInt8) then (muslinref17_Cut.l0 k2 t141 x4_2 (wrap64 (x5_1 + 1))) else (if x4_2.length < 4398046511104 then (muslinref17_Cut.l0 k2 t141 (x4_2 ++ [(⟨t148, t150⟩ : S63)]) (wrap64 (x5_1 + 1))) else (none)))) = some r := H
                            have A19 := Aside0.mk A190
                            clear A190
                            by_cases c20 : t148.toList = ([] : List UInt8)
                            · rw [if_pos c20] at H
                              have c20b0 : (t148.toList == ([] : List UInt8)) = true := beq_iff_eq.mpr c20
                              have c20b1 : (t148.toList != ([] : List UInt8)) = false := bne_eq_false_iff_eq.mpr c20
                              clear c20
                              have H' := Aside0.mk H
                              clear H
                              have p144 : 0 ≤ (x5_1 : Int) := of_decide_eq_true (by first | (with_reducible assumption) | assumption)
                              have q144 : x5_1 < (t141.length : Int) := of_decide_eq_true (by first | (with_reducible assumption) | assumption)
                              obtain ⟨ad144, e144, hx144_0⟩ := Kd.at_string (Kd.R_reads' HO_3.out).2.2 x5_1 p144 q144
                              cases e144
                              replace p144 := eq_true p144
                              replace q144 := eq_true q144
                              have p145 : 0 ≤ (x5_1 : Int) := of_decide_eq_true (by first | (with_reducible assumption) | assumption)
                              have q145 : x5_1 < (t141.length : Int) := of_decide_eq_true (by first | (with_reducible assumption) | assumption)
                              obtain ⟨ad145, e145, hx145_0⟩ := Kd.at_string (Kd.R_reads' HO_3.out).2.2 x5_1 p145 q145
                              obtain rfl : ad144 = ad145 := (by injection e145)
                              replace p145 := eq_true p145
                              replace q145 := eq_true q145
                              have p10 : 0 ≤ (x6_2 : Int) := of_decide_eq_true (by first | (with_reducible assumption) | assumption)
                              have q10 : x6_2 < ((rdOf ByteArray.empty t141 x5_1).size : Int) := of_decide_eq_true (by first | (with_reducible assumption) | assumption)
                              have hx10 := bt_at (rdOf ByteArray.empty t141 x5_1) x6_2
                              replace p10 := eq_true p10
                              replace q10 := eq_true q10
                              have p146 : 0 ≤ (x5_1 : Int) := of_decide_eq_true (by first | (with_reducible assumption) | assumption)
                              have q146 : x5_1 < (t141.length : Int) := of_decide_eq_true (by first | (with_reducible assumption) | assumption)
                              obtain ⟨ad146, e146, hx146_0⟩ := Kd.at_string (Kd.R_reads' HO_3.out).2.2 x5_1 p146 q146
                              obtain rfl : ad144 = ad146 := (by injection e146)
                              replace p146 := eq_true p146
                              replace q146 := eq_true q146
                              go_wp2_with (first | ((with_reducible refine gate_callee (f := 78) rfl ?_); refine goesL_ (some 39) rfl rfl Tryz.func78 (by kernel_rfl) rfl #[.string ((rdOf ByteArray.empty t141 x5_1).extract 0 (x6_2 : Int).toNat)] rfl (by (try simp only [List.map_toArray, List.map_cons, List.map_nil]); first | done | rfl | (simp only [List.length_drop, List.length_take]; rfl)) ?_; (with_reducible refine (muslinref17_trim.calls k2 ((rdOf ByteArray.empty t141 x5_1).extract 0 (x6_2 : Int).toNat) t147 _ A14.out).mono ?_); rintro e w' ⟨rfl, ⟨nd, rfl⟩⟩; refine ⟨_, rfl, ?_⟩) | ((with_reducible refine gate_callee (f := 76) rfl ?_); refine goesL_ (some 40) rfl rfl Tryz.func76 (by kernel_rfl) rfl #[.string t147] rfl (by (try simp only [List.map_toArray, List.map_cons, List.map_nil]); first | done | rfl | (simp only [List.length_drop, List.length_take]; rfl)) ?_; (with_reducible refine (muslinref03_Small.calls k2 t147 t148 _ A15.out).mono ?_); rintro e w21 ⟨rfl, hb⟩; refine ⟨_, rfl, ?_⟩; have n0_ := Aside0.mk (Kd.R_below (by (with_reducible repeat (first | apply Kd.R_alloc | apply Kd.R_drewN | apply Kd.R_drew)); exact HO_3.out) hb); have n1_ := Aside0.mk (Kd.R_below (by (with_reducible repeat (first | apply Kd.R_alloc | apply Kd.R_drewN | apply Kd.R_drew)); exact HO_4.out) hb); have n2_ := Aside0.mk (below_step (by repeat (first | (with_reducible first | exact HB.out | apply below_alloc | apply pw_below_drewN | apply below_drew1) | exact HB.out)) hb); clear HO_3; clear HO_4; clear HB; have HO_3 := n0_; have HO_4 := n1_; have HB := n2_; clear n0_ n1_ n2_; (try clear hb); (try clear hb2); (try clear hk); (try clear hi); have p149 : 0 ≤ (x5_1 : Int) := of_decide_eq_true (by first | (with_reducible assumption) | assumption); have q149 : x5_1 < (t141.length : Int) := of_decide_eq_true (by first | (with_reducible assumption) | assumption); obtain ⟨ad149, e149, hx149_0⟩ := Kd.at_string (Kd.R_reads' HO_3.out).2.2 x5_1 p149 q149; obtain rfl : ad144 = ad149 := (by injection e149); replace p149 := eq_true p149; replace q149 := eq_true q149) | ((with_reducible refine gate_callee (f := 78) rfl ?_); refine goesL_ (some 48) rfl rfl Tryz.func78 (by kernel_rfl) rfl #[.string ((rdOf ByteArray.empty t141 x5_1).extract ((ji16) : Int).toNat (rdOf ByteArray.empty t141 x5_1).size)] rfl (by (try simp only [List.map_toArray, List.map_cons, List.map_nil]); first | done | (simp only [hji16]; rfl) | rfl | (simp only [List.length_drop, List.length_take]; rfl)) ?_; (with_reducible refine (muslinref17_trim.calls k2 ((rdOf ByteArray.empty t141 x5_1).extract ((ji16) : Int).toNat (rdOf ByteArray.empty t141 x5_1).size) t150 _ A19.out).mono ?_); rintro e w' ⟨rfl, ⟨nd, rfl⟩⟩; refine ⟨_, rfl, ?_⟩))
                              go_roundg k2
                              case measure => have := HK1.out; have := HK2.out; omega
                              case rel => exact ⟨(x4_2), (wrap64 (x5_1 + 1)), (by first | rfl | (simp; done) | (simp [*]; done)), H', ⟨by have := HK1.out; have := HK2.out; omega⟩, ⟨by (with_reducible repeat (first | apply Kd.R_alloc | apply Kd.R_drewN | apply Kd.R_drew)); exact HO_3.out⟩, ⟨by (with_reducible repeat (first | apply Kd.R_alloc | apply Kd.R_drewN | apply Kd.R_drew)); exact HO_4.out⟩, ⟨by repeat (first | (with_reducible first | exact HB.out | apply below_alloc | apply pw_below_drewN | apply below_drew1) | exact HB.out)⟩⟩
                            · rw [if_neg c20] at H
                              have c20b0 : (t148.toList == ([] : List UInt8)) = false := beq_eq_false_iff_ne.mpr c20
                              have c20b1 : (t148.toList != ([] : List UInt8)) = true := bne_iff_ne.mpr c20
                              by_cases c22 : t150.toList = ([] : List UInt8)
                              · rw [if_pos c22] at H
                                have c22b0 : (t150.toList == ([] : List UInt8)) = true := beq_iff_eq.mpr c22
                                have c22b1 : (t150.toList != ([] : List UInt8)) = false := bne_eq_false_iff_eq.mpr c22
                                clear c22
                                have H' := Aside0.mk H
                                clear H
                                have p144 : 0 ≤ (x5_1 : Int) := of_decide_eq_true (by first | (with_reducible assumption) | assumption)
                                have q144 : x5_1 < (t141.length : Int) := of_decide_eq_true (by first | (with_reducible assumption) | assumption)
                                obtain ⟨ad144, e144, hx144_0⟩ := Kd.at_string (Kd.R_reads' HO_3.out).2.2 x5_1 p144 q144
                                cases e144
                                replace p144 := eq_true p144
                                replace q144 := eq_true q144
                                have p145 : 0 ≤ (x5_1 : Int) := of_decide_eq_true (by first | (with_reducible assumption) | assumption)
                                have q145 : x5_1 < (t141.length : Int) := of_decide_eq_true (by first | (with_reducible assumption) | assumption)
                                obtain ⟨ad145, e145, hx145_0⟩ := Kd.at_string (Kd.R_reads' HO_3.out).2.2 x5_1 p145 q145
                                obtain rfl : ad144 = ad145 := (by injection e145)
                                replace p145 := eq_true p145
                                replace q145 := eq_true q145
                                have p10 : 0 ≤ (x6_2 : Int) := of_decide_eq_true (by first | (with_reducible assumption) | assumption)
                                have q10 : x6_2 < ((rdOf ByteArray.empty t141 x5_1).size : Int) := of_decide_eq_true (by first | (with_reducible assumption) | assumption)
                                have hx10 := bt_at (rdOf ByteArray.empty t141 x5_1) x6_2
                                replace p10 := eq_true p10
                                replace q10 := eq_true q10
                                have p146 : 0 ≤ (x5_1 : Int) := of_decide_eq_true (by first | (with_reducible assumption) | assumption)
                                have q146 : x5_1 < (t141.length : Int) := of_decide_eq_true (by first | (with_reducible assumption) | assumption)
                                obtain ⟨ad146, e146, hx146_0⟩ := Kd.at_string (Kd.R_reads' HO_3.out).2.2 x5_1 p146 q146
                                obtain rfl : ad144 = ad146 := (by injection e146)
                                replace p146 := eq_true p146
                                replace q146 := eq_true q146
                                go_wp2_with (first | ((with_reducible refine gate_callee (f := 78) rfl ?_); refine goesL_ (some 39) rfl rfl Tryz.func78 (by kernel_rfl) rfl #[.string ((rdOf ByteArray.empty t141 x5_1).extract 0 (x6_2 : Int).toNat)] rfl (by (try simp only [List.map_toArray, List.map_cons, List.map_nil]); first | done | rfl | (simp only [List.length_drop, List.length_take]; rfl)) ?_; (with_reducible refine (muslinref17_trim.calls k2 ((rdOf ByteArray.empty t141 x5_1).extract 0 (x6_2 : Int).toNat) t147 _ A14.out).mono ?_); rintro e w' ⟨rfl, ⟨nd, rfl⟩⟩; refine ⟨_, rfl, ?_⟩) | ((with_reducible refine gate_callee (f := 76) rfl ?_); refine goesL_ (some 40) rfl rfl Tryz.func76 (by kernel_rfl) rfl #[.string t147] rfl (by (try simp only [List.map_toArray, List.map_cons, List.map_nil]); first | done | rfl | (simp only [List.length_drop, List.length_take]; rfl)) ?_; (with_reducible refine (muslinref03_Small.calls k2 t147 t148 _ A15.out).mono ?_); rintro e w23 ⟨rfl, hb⟩; refine ⟨_, rfl, ?_⟩; have n0_ := Aside0.mk (Kd.R_below (by (with_reducible repeat (first | apply Kd.R_alloc | apply Kd.R_drewN | apply Kd.R_drew)); exact HO_3.out) hb); have n1_ := Aside0.mk (Kd.R_below (by (with_reducible repeat (first | apply Kd.R_alloc | apply Kd.R_drewN | apply Kd.R_drew)); exact HO_4.out) hb); have n2_ := Aside0.mk (below_step (by repeat (first | (with_reducible first | exact HB.out | apply below_alloc | apply pw_below_drewN | apply below_drew1) | exact HB.out)) hb); clear HO_3; clear HO_4; clear HB; have HO_3 := n0_; have HO_4 := n1_; have HB := n2_; clear n0_ n1_ n2_; (try clear hb); (try clear hb2); (try clear hk); (try clear hi); have p149 : 0 ≤ (x5_1 : Int) := of_decide_eq_true (by first | (with_reducible assumption) | assumption); have q149 : x5_1 < (t141.length : Int) := of_decide_eq_true (by first | (with_reducible assumption) | assumption); obtain ⟨ad149, e149, hx149_0⟩ := Kd.at_string (Kd.R_reads' HO_3.out).2.2 x5_1 p149 q149; obtain rfl : ad144 = ad149 := (by injection e149); replace p149 := eq_true p149; replace q149 := eq_true q149) | ((with_reducible refine gate_callee (f := 78) rfl ?_); refine goesL_ (some 48) rfl rfl Tryz.func78 (by kernel_rfl) rfl #[.string ((rdOf ByteArray.empty t141 x5_1).extract ((ji16) : Int).toNat (rdOf ByteArray.empty t141 x5_1).size)] rfl (by (try simp only [List.map_toArray, List.map_cons, List.map_nil]); first | done | (simp only [hji16]; rfl) | rfl | (simp only [List.length_drop, List.length_take]; rfl)) ?_; (with_reducible refine (muslinref17_trim.calls k2 ((rdOf ByteArray.empty t141 x5_1).extract ((ji16) : Int).toNat (rdOf ByteArray.empty t141 x5_1).size) t150 _ A19.out).mono ?_); rintro e w' ⟨rfl, ⟨nd, rfl⟩⟩; refine ⟨_, rfl, ?_⟩))
                                go_roundg k2
                                case measure => have := HK1.out; have := HK2.out; omega
                                case rel => exact ⟨(x4_2), (wrap64 (x5_1 + 1)), (by first | rfl | (simp; done) | (simp [*]; done)), H', ⟨by have := HK1.out; have := HK2.out; omega⟩, ⟨by (with_reducible repeat (first | apply Kd.R_alloc | apply Kd.R_drewN | apply Kd.R_drew)); exact HO_3.out⟩, ⟨by (with_reducible repeat (first | apply Kd.R_alloc | apply Kd.R_drewN | apply Kd.R_drew)); exact HO_4.out⟩, ⟨by repeat (first | (with_reducible first | exact HB.out | apply below_alloc | apply pw_below_drewN | apply below_drew1) | exact HB.out)⟩⟩
                              · rw [if_neg c22] at H
                                have c22b0 : (t150.toList == ([] : List UInt8)) = false := beq_eq_false_iff_ne.mpr c22
                                have c22b1 : (t150.toList != ([] : List UInt8)) = true := bne_iff_ne.mpr c22
                                by_cases c24 : x4_2.length < 4398046511104
                                · rw [if_pos c24] at H
                                  have LMc24 := Aside0.mk c24
                                  clear c24
                                  obtain ⟨y151, hy151⟩ : ∃ y_ : List (S63), y_ = (x4_2 ++ [(⟨t148, t150⟩ : S63)]) := ⟨_, rfl⟩
                                  replace H : (muslinref17_Cut.l0 k2 t141 y151 (wrap64 (x5_1 + 1))) = some r := by first | (rw [hy151]; with_reducible exact H) | (have H2_ := (Option.bind_some _ _).symm.trans H; rw [hy151]; with_reducible exact H2_) | (have H2_ := (Option.bind_some _ _).symm.trans H; with_reducible exact H2_) | with_reducible exact H | (rw [hy151]; exact H) | exact H
                                  have Ny151 := Aside0.mk hy151
                                  clear hy151
                                  have H' := Aside0.mk H
                                  clear H
                                  have p144 : 0 ≤ (x5_1 : Int) := of_decide_eq_true (by first | (with_reducible assumption) | assumption)
                                  have q144 : x5_1 < (t141.length : Int) := of_decide_eq_true (by first | (with_reducible assumption) | assumption)
                                  obtain ⟨ad144, e144, hx144_0⟩ := Kd.at_string (Kd.R_reads' HO_3.out).2.2 x5_1 p144 q144
                                  cases e144
                                  replace p144 := eq_true p144
                                  replace q144 := eq_true q144
                                  have p145 : 0 ≤ (x5_1 : Int) := of_decide_eq_true (by first | (with_reducible assumption) | assumption)
                                  have q145 : x5_1 < (t141.length : Int) := of_decide_eq_true (by first | (with_reducible assumption) | assumption)
                                  obtain ⟨ad145, e145, hx145_0⟩ := Kd.at_string (Kd.R_reads' HO_3.out).2.2 x5_1 p145 q145
                                  obtain rfl : ad144 = ad145 := (by injection e145)
                                  replace p145 := eq_true p145
                                  replace q145 := eq_true q145
                                  have p10 : 0 ≤ (x6_2 : Int) := of_decide_eq_true (by first | (with_reducible assumption) | assumption)
                                  have q10 : x6_2 < ((rdOf ByteArray.empty t141 x5_1).size : Int) := of_decide_eq_true (by first | (with_reducible assumption) | assumption)
                                  have hx10 := bt_at (rdOf ByteArray.empty t141 x5_1) x6_2
                                  replace p10 := eq_true p10
                                  replace q10 := eq_true q10
                                  have p146 : 0 ≤ (x5_1 : Int) := of_decide_eq_true (by first | (with_reducible assumption) | assumption)
                                  have q146 : x5_1 < (t141.length : Int) := of_decide_eq_true (by first | (with_reducible assumption) | assumption)
                                  obtain ⟨ad146, e146, hx146_0⟩ := Kd.at_string (Kd.R_reads' HO_3.out).2.2 x5_1 p146 q146
                                  obtain rfl : ad144 = ad146 := (by injection e146)
                                  replace p146 := eq_true p146
                                  replace q146 := eq_true q146
                                  go_wp2_with (first | ((with_reducible refine gate_callee (f := 78) rfl ?_); refine goesL_ (some 39) rfl rfl Tryz.func78 (by kernel_rfl) rfl #[.string ((rdOf ByteArray.empty t141 x5_1).extract 0 (x6_2 : Int).toNat)] rfl (by (try simp only [List.map_toArray, List.map_cons, List.map_nil]); first | done | rfl | (simp only [List.length_drop, List.length_take]; rfl)) ?_; (with_reducible refine (muslinref17_trim.calls k2 ((rdOf ByteArray.empty t141 x5_1).extract 0 (x6_2 : Int).toNat) t147 _ A14.out).mono ?_); rintro e w' ⟨rfl, ⟨nd, rfl⟩⟩; refine ⟨_, rfl, ?_⟩) | ((with_reducible refine gate_callee (f := 76) rfl ?_); refine goesL_ (some 40) rfl rfl Tryz.func76 (by kernel_rfl) rfl #[.string t147] rfl (by (try simp only [List.map_toArray, List.map_cons, List.map_nil]); first | done | rfl | (simp only [List.length_drop, List.length_take]; rfl)) ?_; (with_reducible refine (muslinref03_Small.calls k2 t147 t148 _ A15.out).mono ?_); rintro e w25 ⟨rfl, hb⟩; refine ⟨_, rfl, ?_⟩; have n0_ := Aside0.mk (Kd.R_below (by (with_reducible repeat (first | apply Kd.R_alloc | apply Kd.R_drewN | apply Kd.R_drew)); exact HO_3.out) hb); have n1_ := Aside0.mk (Kd.R_below (by (with_reducible repeat (first | apply Kd.R_alloc | apply Kd.R_drewN | apply Kd.R_drew)); exact HO_4.out) hb); have n2_ := Aside0.mk (below_step (by repeat (first | (with_reducible first | exact HB.out | apply below_alloc | apply pw_below_drewN | apply below_drew1) | exact HB.out)) hb); clear HO_3; clear HO_4; clear HB; have HO_3 := n0_; have HO_4 := n1_; have HB := n2_; clear n0_ n1_ n2_; (try clear hb); (try clear hb2); (try clear hk); (try clear hi); have p149 : 0 ≤ (x5_1 : Int) := of_decide_eq_true (by first | (with_reducible assumption) | assumption); have q149 : x5_1 < (t141.length : Int) := of_decide_eq_true (by first | (with_reducible assumption) | assumption); obtain ⟨ad149, e149, hx149_0⟩ := Kd.at_string (Kd.R_reads' HO_3.out).2.2 x5_1 p149 q149; obtain rfl : ad144 = ad149 := (by injection e149); replace p149 := eq_true p149; replace q149 := eq_true q149) | ((with_reducible refine gate_callee (f := 78) rfl ?_); refine goesL_ (some 48) rfl rfl Tryz.func78 (by kernel_rfl) rfl #[.string ((rdOf ByteArray.empty t141 x5_1).extract ((ji16) : Int).toNat (rdOf ByteArray.empty t141 x5_1).size)] rfl (by (try simp only [List.map_toArray, List.map_cons, List.map_nil]); first | done | (simp only [hji16]; rfl) | rfl | (simp only [List.length_drop, List.length_take]; rfl)) ?_; (with_reducible refine (muslinref17_trim.calls k2 ((rdOf ByteArray.empty t141 x5_1).extract ((ji16) : Int).toNat (rdOf ByteArray.empty t141 x5_1).size) t150 _ A19.out).mono ?_); rintro e w' ⟨rfl, ⟨nd, rfl⟩⟩; refine ⟨_, rfl, ?_⟩) | ((with_reducible refine gate_builtin (b := .append) (xs := #[.tmp 55, .tmp 59]) rfl ?_); at_builtin; refine Kd.R_append k63 (w0 := w) w.heap.size rfl (.tmp 55) (.tmp 59) 61 63 (.agg #[(.string ⟨#[]⟩), (.string ⟨#[]⟩)]) 32 rfl Tryz.underlying61 info63 rfl (by decide) (by omega) u4 x4_2 (⟨t148, t150⟩ : S63) [.string t148, .string t150] (fun _ => True) (fun _ => False) rfl rfl ?aP (fun _ hk => hk.elim) ?aF ?aO ?aB ?aS ?aL ?_; (case aP => exact k63_mkM _ _ _ (⟨t148, t150⟩ : S63)); (case aB => exact (by repeat (first | (with_reducible first | exact HB.out | apply below_alloc | apply pw_below_drewN | apply below_drew1) | exact HB.out))); (case aF => exact (fun _ _ => trivial)); (case aO => exact (by (with_reducible repeat (first | apply Kd.R_alloc | apply Kd.R_drewN | apply Kd.R_drew)); exact HO_4.out)); (case aS => exact (below_size (by repeat (first | (with_reducible first | exact HB.out | apply below_alloc | apply pw_below_drewN | apply below_drew1) | exact HB.out)))); (case aL => have := LMc24.out; omega); intro v152 w26 ho hb hg hat; rw [← Ny151.out] at ho; have n0_ := Aside0.mk (Kd.R_over' (by (with_reducible repeat (first | apply Kd.R_alloc | apply Kd.R_drewN | apply Kd.R_drew)); exact HO_3.out) (Kd.R_typed (by (with_reducible repeat (first | apply Kd.R_alloc | apply Kd.R_drewN | apply Kd.R_drew)); exact HO_4.out)) (by decide) hg); have n1_ := Aside0.mk (hb); have n2_ := Aside0.mk (ho); clear HO_3; clear HB; clear HO_4; have HO_3 := n0_; have HB := n1_; have HO153 := n2_; clear n0_ n1_ n2_; clear ho hb hg hat))
                                  go_roundg k2
                                  case measure => have := HK1.out; have := HK2.out; omega
                                  case rel => exact ⟨(y151), (wrap64 (x5_1 + 1)), (by first | rfl | (simp; done) | (simp [*]; done)), H', ⟨by have := HK1.out; have := HK2.out; omega⟩, ⟨by (with_reducible repeat (first | apply Kd.R_alloc | apply Kd.R_drewN | apply Kd.R_drew)); exact HO_3.out⟩, ⟨by (with_reducible repeat (first | apply Kd.R_alloc | apply Kd.R_drewN | apply Kd.R_drew)); exact HO153.out⟩, ⟨by repeat (first | (with_reducible first | exact HB.out | apply below_alloc | apply pw_below_drewN | apply below_drew1) | exact HB.out)⟩⟩
                                · rw [if_neg c24] at H
                                  exact absurd H (by simp)
                          · rw [if_neg c18] at H
                            exact absurd H (by simp)
                        · rw [if_neg c17] at H
                          exact absurd H (by simp)
                      · rw [if_neg c13] at H
                        exact absurd H (by simp)
                    · rw [if_neg c11] at H
                      have c11b0 : ((bt (rdOf ByteArray.empty t141 x5_1) x6_2) == 58) = false := beq_eq_false_iff_ne.mpr c11
                      have c11b1 : ((bt (rdOf ByteArray.empty t141 x5_1) x6_2) != 58) = true := bne_iff_ne.mpr c11
                      have H' := Aside0.mk H
                      clear H
                      have p144 : 0 ≤ (x5_1 : Int) := of_decide_eq_true (by first | (with_reducible assumption) | assumption)
                      have q144 : x5_1 < (t141.length : Int) := of_decide_eq_true (by first | (with_reducible assumption) | assumption)
                      obtain ⟨ad144, e144, hx144_0⟩ := Kd.at_string (Kd.R_reads' HO_3.out).2.2 x5_1 p144 q144
                      cases e144
                      replace p144 := eq_true p144
                      replace q144 := eq_true q144
                      have p145 : 0 ≤ (x5_1 : Int) := of_decide_eq_true (by first | (with_reducible assumption) | assumption)
                      have q145 : x5_1 < (t141.length : Int) := of_decide_eq_true (by first | (with_reducible assumption) | assumption)
                      obtain ⟨ad145, e145, hx145_0⟩ := Kd.at_string (Kd.R_reads' HO_3.out).2.2 x5_1 p145 q145
                      obtain rfl : ad144 = ad145 := (by injection e145)
                      replace p145 := eq_true p145
                      replace q145 := eq_true q145
                      have p10 : 0 ≤ (x6_2 : Int) := of_decide_eq_true (by first | (with_reducible assumption) | assumption)
                      have q10 : x6_2 < ((rdOf ByteArray.empty t141 x5_1).size : Int) := of_decide_eq_true (by first | (with_reducible assumption) | assumption)
                      have hx10 := bt_at (rdOf ByteArray.empty t141 x5_1) x6_2
                      replace p10 := eq_true p10
                      replace q10 := eq_true q10
                      go_wp2
                      go_roundg k2
                      case measure => have := HK1.out; have := HK2.out; omega
                      case rel => exact ⟨(x4_2), (wrap64 (x6_2 + 1)), (by first | rfl | (simp; done) | (simp [*]; done)), H', ⟨by have := HK1.out; have := HK2.out; omega⟩, ⟨by (with_reducible repeat (first | apply Kd.R_alloc | apply Kd.R_drewN | apply Kd.R_drew)); exact HO_3.out⟩, ⟨by (with_reducible repeat (first | apply Kd.R_alloc | apply Kd.R_drewN | apply Kd.R_drew)); exact HO_4.out⟩, ⟨by repeat (first | (with_reducible first | exact HB.out | apply below_alloc | apply pw_below_drewN | apply below_drew1) | exact HB.out)⟩⟩
                  · rw [if_neg c9] at H
                    exact absurd H (by simp)
                · rw [if_neg c8] at H
                  have c8b0 : decide (x6_2 < ((rdOf ByteArray.empty t141 x5_1).size : Int)) = false := decide_eq_false c8
                  clear c8
                  have H' := Aside0.mk H
                  clear H
                  have p144 : 0 ≤ (x5_1 : Int) := of_decide_eq_true (by first | (with_reducible assumption) | assumption)
                  have q144 : x5_1 < (t141.length : Int) := of_decide_eq_true (by first | (with_reducible assumption) | assumption)
                  obtain ⟨ad144, e144, hx144_0⟩ := Kd.at_string (Kd.R_reads' HO_3.out).2.2 x5_1 p144 q144
                  cases e144
                  replace p144 := eq_true p144
                  replace q144 := eq_true q144
                  go_wp2
                  go_roundg k2
                  case measure => have := HK1.out; have := HK2.out; omega
                  case rel => exact ⟨(x4_2), (wrap64 (x5_1 + 1)), (by first | rfl | (simp; done) | (simp [*]; done)), H', ⟨by have := HK1.out; have := HK2.out; omega⟩, ⟨by (with_reducible repeat (first | apply Kd.R_alloc | apply Kd.R_drewN | apply Kd.R_drew)); exact HO_3.out⟩, ⟨by (with_reducible repeat (first | apply Kd.R_alloc | apply Kd.R_drewN | apply Kd.R_drew)); exact HO_4.out⟩, ⟨by repeat (first | (with_reducible first | exact HB.out | apply below_alloc | apply pw_below_drewN | apply below_drew1) | exact HB.out)⟩⟩
              · rw [if_neg c7] at H
                exact absurd H (by simp)
            · rw [if_neg c6] at H
              exact absurd H (by simp)
      · rw [if_neg c4] at H
        have c4b0 : decide (x5_1 < (t141.length : Int)) = false := decide_eq_false c4
        clear c4
        obtain rfl := Option.some.inj H
        obtain ⟨Ao27, co27, eo27⟩ := Kd.R_slice HO_3.out
        subst eo27
        go_wp2
        go_ret
        exact ⟨_, by first | rfl | (simp [errW_none, errW_some] <;> rfl) | (simp [*, errW_none, errW_some] <;> rfl), by (with_reducible repeat (first | apply Kd.R_alloc | apply Kd.R_drewN | apply Kd.R_drew)); exact HO_4.out, by repeat (first | (with_reducible first | exact HB.out | apply below_alloc | apply pw_below_drewN | apply below_drew1) | exact HB.out)⟩
end Go.Proofs.YtchooidhieaphaaGreatDoor.PQ
