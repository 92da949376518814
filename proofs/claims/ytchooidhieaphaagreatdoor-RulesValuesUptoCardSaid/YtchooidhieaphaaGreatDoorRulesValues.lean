/- The law RulesValues returns true. Conditions: texts of at most 1048576 bytes; fewer than 2^32 - 96 parts. -/
import Derived.Test.YtchooidhieaphaaGreatDoorRulesSafe
import Derived.Test.YtchooidhieaphaaGreatDoorCssAgain
import Derived.Test.YtchooidhieaphaaGreatDoorRefValue
set_option linter.unusedVariables false
set_option linter.unusedSimpArgs false
namespace Go.Proofs.YtchooidhieaphaaGreatDoor
open Go.RowKit Go.Proofs.YtchooidhieaphaaGreatDoorW.PrintWords PRulesValues
theorem all_step6 {w W W' : World} {K1 K2 : Nat} {b1 b2 b3 : Bool} {nm v : ByteArray}
    (h : W.cell? ⟨K1, 0, none⟩ = some (.bool b1) ∧ W.cell? ⟨K1, 1, none⟩ = some (.bool b2) ∧ W.cell? ⟨K1, 2, none⟩ = some (.bool b3) ∧ W.cell? ⟨K2, 0, none⟩ = some (.string nm) ∧ W.cell? ⟨K2, 1, none⟩ = some (.string v) ∧ Hid (Below w.heap.size w W)) (hb : Below W.heap.size W W') :
    W'.cell? ⟨K1, 0, none⟩ = some (.bool b1) ∧ W'.cell? ⟨K1, 1, none⟩ = some (.bool b2) ∧ W'.cell? ⟨K1, 2, none⟩ = some (.bool b3) ∧ W'.cell? ⟨K2, 0, none⟩ = some (.string nm) ∧ W'.cell? ⟨K2, 1, none⟩ = some (.string v) ∧ Hid (Below w.heap.size w W') := by
  obtain ⟨h0, h1, h2, h3, h4, h5⟩ := h
  exact ⟨cell_later hb h0, cell_later hb h1, cell_later hb h2, cell_later hb h3, cell_later hb h4, Lib.hid (below_then' h5.out hb)⟩
set_option maxRecDepth 100000 in
set_option maxHeartbeats 6400000 in
theorem values_any (b1 b2 b3 : Bool) (A : Option Addr) (c : Nat) (l : List S39) (e nm v : ByteArray) (w : World) (hG : Good w) (he : e.size ≤ 1048576) (hn : nm.size ≤ 1048576) (hv : v.size ≤ 1048576) (hC : Kd.C k39 w A l.length l) (hc : l.length ≤ c) (hl : l.length ≤ 1048576) :
    Calls Tryz.prog 4 #[.agg #[.bool b1, .bool b2, .bool b3, .slice A l.length c, .string e, .string nm, .string v]] w fun en w' => en = .returned (.bool true) ∧ Below w.heap.size w w' := by
  have HL := Lib.hid (fun w1 (hb : Below w.heap.size w w1) => live_any w1 (hG.below hb))
  have HFew := Lib.hid (fun w1 (hb : Below w.heap.size w w1) => few_any A c l nm v w1 (Kd.C_below hC hb) hc (by omega))
  have HV := Lib.hid (fun w1 (hb : Below w.heap.size w w1) => value_any b1 b2 b3 A c l e nm v w1 (hG.below hb) (by omega) (by omega) (by omega) (Kd.C_below hC hb) (by omega))
  have HR := Lib.hid (fun w1 (hb : Below w.heap.size w w1) => rvalue_any b1 b2 b3 A c l e nm v w1 (by omega) (Kd.C_below hC hb) hc (by omega))
  have HBl := Lib.hid (fun (K1 K2 : Nat) (W : World) (h : W.cell? ⟨K1, 0, none⟩ = some (.bool b1) ∧ W.cell? ⟨K1, 1, none⟩ = some (.bool b2) ∧ W.cell? ⟨K1, 2, none⟩ = some (.bool b3) ∧ W.cell? ⟨K2, 0, none⟩ = some (.string nm) ∧ W.cell? ⟨K2, 1, none⟩ = some (.string v) ∧ Hid (Below w.heap.size w W)) =>
    (blocked_any b1 b2 b3 e nm v W (hG.below h.2.2.2.2.2.out) (by omega)).mono fun en W' hh => And.intro hh.1 (all_step6 h hh.2))
  have HRB := Lib.hid (fun (K1 K2 : Nat) (W : World) (h : W.cell? ⟨K1, 0, none⟩ = some (.bool b1) ∧ W.cell? ⟨K1, 1, none⟩ = some (.bool b2) ∧ W.cell? ⟨K1, 2, none⟩ = some (.bool b3) ∧ W.cell? ⟨K2, 0, none⟩ = some (.string nm) ∧ W.cell? ⟨K2, 1, none⟩ = some (.string v) ∧ Hid (Below w.heap.size w W)) =>
    (rblocked_any b1 b2 b3 e nm v W (by omega)).mono fun en W' hh => And.intro hh.1 (all_step6 h hh.2))
  have HL6 := Lib.hid (fun (K1 K2 : Nat) (W : World) (h : W.cell? ⟨K1, 0, none⟩ = some (.bool b1) ∧ W.cell? ⟨K1, 1, none⟩ = some (.bool b2) ∧ W.cell? ⟨K1, 2, none⟩ = some (.bool b3) ∧ W.cell? ⟨K2, 0, none⟩ = some (.string nm) ∧ W.cell? ⟨K2, 1, none⟩ = some (.string v) ∧ Hid (Below w.heap.size w W)) =>
    (live_any W (hG.below h.2.2.2.2.2.out)).mono fun en W' hh => And.intro hh.1 (all_step6 h hh.2))
  clear hG hC
  go_enter Tryz.func4, Tryz.ntmps4
  go_upto_region 1 with (fail)
  go_cut [3, 4, 5, 6] (fun p f el a wr => ∃ K1 K2 : Nat, p = .pointer (some ⟨K1, 0, none⟩) ∧ f = .slice A l.length c ∧ el = .string e ∧ a = .pointer (some ⟨K2, 0, none⟩) ∧ Hid (wr.heap[K1]? = some (.cells #[.bool b1, .bool b2, .bool b3] 26 (0, 0))) ∧ Hid (wr.heap[K2]? = some (.cells #[.string nm, .string v] 29 (0, 0))) ∧ Hid (Below w.heap.size w wr))
  case first =>
    go_region
    · go_wp2_with fail
      go_meet
      case rel =>
        refine ⟨w.heap.size + 1, w.heap.size + 1 + 1, rfl, rfl, rfl, rfl, Lib.hid ?_, Lib.hid ?_, Lib.hid ?_⟩
        · exact three_mid _ _ _ _
        · exact three_last _ _ _ _
        · exact three_below _ _ _ _
    · go_wp2_with fail
      go_meet
      case rel =>
        refine ⟨w.heap.size + 1 + 1, w.heap.size + 1, rfl, rfl, rfl, rfl, Lib.hid ?_, Lib.hid ?_, Lib.hid ?_⟩
        · exact three_last _ _ _ _
        · exact three_mid _ _ _ _
        · exact three_below _ _ _ _
  case rest =>
    obtain ⟨K1, K2, rfl, rfl, rfl, rfl, H1, H2, HB⟩ := hcut
    obtain ⟨fw, hfw⟩ := HFew.out wc HB.out
    have HFw := Lib.hid hfw
    have y0 : wc.cell? ⟨K1, 0, none⟩ = some (.bool b1) := blk_cell H1.out 0
    have y1 : wc.cell? ⟨K1, 1, none⟩ = some (.bool b2) := blk_cell H1.out 1
    have y2 : wc.cell? ⟨K1, 2, none⟩ = some (.bool b3) := blk_cell H1.out 2
    have x0 : wc.cell? ⟨K2, 0, none⟩ = some (.string nm) := blk_cell H2.out 0
    have x1 : wc.cell? ⟨K2, 1, none⟩ = some (.string v) := blk_cell H2.out 1
    clear hfw HFew
    go_wp2_with fail
    refine HFw.out.mono ?_
    rintro en w1 ⟨rfl, hb⟩
    have HB1 := Lib.hid (below_then' HB.out hb)
    have H11 := Lib.hid (blk_below H1.out hb)
    have H12 := Lib.hid (blk_below H2.out hb)
    clear hb y0 y1 y2 x0 x1
    have y0 : w1.cell? ⟨K1, 0, none⟩ = some (.bool b1) := blk_cell H11.out 0
    have y1 : w1.cell? ⟨K1, 1, none⟩ = some (.bool b2) := blk_cell H11.out 1
    have y2 : w1.cell? ⟨K1, 2, none⟩ = some (.bool b3) := blk_cell H11.out 2
    have x0 : w1.cell? ⟨K2, 0, none⟩ = some (.string nm) := blk_cell H12.out 0
    have x1 : w1.cell? ⟨K2, 1, none⟩ = some (.string v) := blk_cell H12.out 1
    cases fw with
    | false =>
      go_wp2_with fail
      refine (HL.out w1 HB1.out).mono ?_
      rintro en w2 ⟨rfl, hb⟩
      have HB2 := Lib.hid (below_then' HB1.out hb)
      clear hb
      go_wp2_with fail
      go_ret
      exact ⟨rfl, HB2.out⟩
    | true =>
      obtain ⟨p, hpv⟩ : ∃ p, valueF b1 b2 l e.data.toList nm.data.toList v.data.toList = p := ⟨_, rfl⟩
      rw [hpv] at HV HR
      obtain ⟨r, ok⟩ := p
      obtain ⟨rb, hrb⟩ : ∃ rb : ByteArray, (⟨r.toArray⟩ : ByteArray) = rb := ⟨_, rfl⟩
      replace HV := Lib.hid (HV.out w1 HB1.out)
      rw [show (⟨(r, ok).1.toArray⟩ : ByteArray) = rb from hrb] at HV
      replace HR := Lib.hid (fun w2 (hb : Below w.heap.size w w2) => HR.out w2 hb)
      rw [show (⟨(r, ok).1.toArray⟩ : ByteArray) = rb from hrb] at HR
      clear hrb hpv
      generalize blockF b1 e.data.toList nm.data.toList v.data.toList = bk at *
      go_wp2_with fail
      refine HV.out.mono ?_
      rintro en w2 ⟨rfl, hb⟩
      have HB2 := Lib.hid (below_then' HB1.out hb)
      have G1 := Lib.hid (blk_below H11.out hb)
      have G2 := Lib.hid (blk_below H12.out hb)
      clear hb y0 y1 y2 x0 x1
      have y0 : w2.cell? ⟨K1, 0, none⟩ = some (.bool b1) := blk_cell G1.out 0
      have y1 : w2.cell? ⟨K1, 1, none⟩ = some (.bool b2) := blk_cell G1.out 1
      have y2 : w2.cell? ⟨K1, 2, none⟩ = some (.bool b3) := blk_cell G1.out 2
      have x0 : w2.cell? ⟨K2, 0, none⟩ = some (.string nm) := blk_cell G2.out 0
      have x1 : w2.cell? ⟨K2, 1, none⟩ = some (.string v) := blk_cell G2.out 1
      go_wp2_with fail
      refine (HR.out w2 HB2.out).mono ?_
      rintro en w3 ⟨rfl, hb⟩
      have HB3 := Lib.hid (below_then' HB2.out hb)
      have G3 := Lib.hid (blk_below G1.out hb)
      have G4 := Lib.hid (blk_below G2.out hb)
      clear hb y0 y1 y2 x0 x1
      have y0 : w3.cell? ⟨K1, 0, none⟩ = some (.bool b1) := blk_cell G3.out 0
      have y1 : w3.cell? ⟨K1, 1, none⟩ = some (.bool b2) := blk_cell G3.out 1
      have y2 : w3.cell? ⟨K1, 2, none⟩ = some (.bool b3) := blk_cell G3.out 2
      have x0 : w3.cell? ⟨K2, 0, none⟩ = some (.string nm) := blk_cell G4.out 0
      have x1 : w3.cell? ⟨K2, 1, none⟩ = some (.string v) := blk_cell G4.out 1
      go_wp2_with fail
      go_region_held3 (fun W => W.cell? ⟨K1, 0, none⟩ = some (.bool b1) ∧ W.cell? ⟨K1, 1, none⟩ = some (.bool b2) ∧ W.cell? ⟨K1, 2, none⟩ = some (.bool b3) ∧ W.cell? ⟨K2, 0, none⟩ = some (.string nm) ∧ W.cell? ⟨K2, 1, none⟩ = some (.string v) ∧ Hid (Below w.heap.size w W))
        (first | assumption | exact ⟨y0, y1, y2, x0, x1, Lib.hid HB3.out.drew⟩)
        (first
          | (go_at_call 16; refine (HBl.out K1 K2 _ (by assumption)).mono ?_; rintro en w' ⟨rfl, hSn⟩)
          | (go_at_call 17; refine (HRB.out K1 K2 _ (by assumption)).mono ?_; rintro en w' ⟨rfl, hSn⟩)
          | (go_at_call 12; refine (HL6.out K1 K2 _ (by assumption)).mono ?_; rintro en w' ⟨rfl, hSn⟩))
      all_goals
        go_wp2_with fail
        go_ret
        exact ⟨rfl, hSn.2.2.2.2.2.out⟩
/-- The law, as the card asks for it. -/
theorem values_case (b1 b2 b3 : Bool) (A : Option Addr) (c : Nat) (l : List S39) (e nm v : ByteArray) (w : World) (hG : Good w) (he : e.size ≤ 1048576) (hn : nm.size ≤ 1048576) (hv : v.size ≤ 1048576) (hC : Kd.C k39 w A l.length l) (hc : l.length ≤ c) (hl : l.length ≤ 1048576)
    (hls : ∀ x ∈ l, x.f0.size + x.f1.size + x.f2.size + x.f3.size ≤ 1048576) :
    Calls Tryz.prog 4 #[.agg #[.bool b1, .bool b2, .bool b3, .slice A l.length c, .string e, .string nm, .string v]] w fun en w' => en = .returned (.bool true) ∧ Below w.heap.size w w' :=
  values_any b1 b2 b3 A c l e nm v w hG he hn hv hC hc hl
end Go.Proofs.YtchooidhieaphaaGreatDoor
