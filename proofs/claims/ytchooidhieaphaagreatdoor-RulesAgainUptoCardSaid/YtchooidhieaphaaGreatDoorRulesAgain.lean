/- The law RulesAgain returns true. Conditions: texts of at most 1048576 bytes; fewer than 2^32 - 96 parts. -/
import Derived.Test.YtchooidhieaphaaGreatDoorRulesSafe
import Derived.Test.YtchooidhieaphaaGreatDoorValueAgain
set_option linter.unusedVariables false
set_option linter.unusedSimpArgs false
namespace Go.Proofs.YtchooidhieaphaaGreatDoor
open Go.RowKit Go.Proofs.YtchooidhieaphaaGreatDoorW.PrintWords PRulesValues

set_option maxRecDepth 100000 in
set_option maxHeartbeats 6400000 in
theorem again_any (b1 b2 b3 : Bool) (A : Option Addr) (c : Nat) (l : List S39) (e nm v : ByteArray) (w : World) (hG : Good w) (he : e.size ≤ 1048576) (hn : nm.size ≤ 1048576) (hv : v.size ≤ 1048576) (hC : Kd.C k39 w A l.length l) (hc : l.length ≤ c) (hl : l.length ≤ 1048576) :
    Calls Tryz.prog 5 #[.agg #[.bool b1, .bool b2, .bool b3, .slice A l.length c, .string e, .string nm, .string v]] w fun en w' => en = .returned (.bool true) ∧ Below w.heap.size w w' := by
  have HL := Lib.hid (fun w1 (hb : Below w.heap.size w w1) => live_any w1 (hG.below hb))
  have HFew := Lib.hid (fun w1 (hb : Below w.heap.size w w1) => few_any A c l nm v w1 (Kd.C_below hC hb) hc (by omega))
  have HV := Lib.hid (fun w1 (hb : Below w.heap.size w w1) => value_any b1 b2 b3 A c l e nm v w1 (hG.below hb) (by omega) (by omega) (by omega) (Kd.C_below hC hb) (by omega))
  have hvl := value_len b1 b2 l e.data.toList nm.data.toList v.data.toList (by omega)
  have hva := value_again b1 b2 l e.data.toList nm.data.toList v.data.toList (by omega)
  have HV2 := Lib.hid (fun (r : ByteArray) (hr : r.size < 4294967200) w1 (hb : Below w.heap.size w w1) => value_any b1 b2 b3 A c l e nm r w1 (hG.below hb) (by omega) (by omega) hr (Kd.C_below hC hb) (by omega))
  have HBl := Lib.hid (fun (r : ByteArray) (hr : r.size < 4294967200) w1 (hb : Below w.heap.size w w1) => blocked_any b1 b2 b3 e nm r w1 (hG.below hb) (by omega))
  have HAt := Lib.hid (fun w1 (hb : Below w.heap.size w w1) => attr_any e nm w1 (hG.below hb) (by omega) (by omega))
  clear hG hC
  go_enter Tryz.func5, Tryz.ntmps5
  go_upto_region 1 with (fail)
  go_cut [3, 4, 5, 6] (fun p f el a wr => ∃ K1 K2 : Nat, p = .pointer (some ⟨K1, 0, none⟩) ∧ f = .slice A l.length c ∧ el = .string e ∧ a = .pointer (some ⟨K2, 0, none⟩) ∧ Hid (wr.heap[K1]? = some (.cells #[.bool b1, .bool b2, .bool b3] 26 (0, 0))) ∧ Hid (wr.heap[K2]? = some (.cells #[.string nm, .string v] 29 (0, 0))) ∧ Hid (Below w.heap.size w wr))
  case first =>
    go_region
    · go_wp2_with fail
      go_meet
      case rel =>
        refine ⟨w.heap.size + 1, w.heap.size + 1 + 1, rfl, rfl, rfl, rfl, Lib.hid ?_, Lib.hid ?_, Lib.hid ?_⟩
        · exact three_mid _ _ _ _
        · exact three_last _ _ _ _
        · exact three_below _ _ _ _
    · go_wp2_with fail
      go_meet
      case rel =>
        refine ⟨w.heap.size + 1 + 1, w.heap.size + 1, rfl, rfl, rfl, rfl, Lib.hid ?_, Lib.hid ?_, Lib.hid ?_⟩
        · exact three_last _ _ _ _
        · exact three_mid _ _ _ _
        · exact three_below _ _ _ _
  case rest =>
    obtain ⟨K1, K2, rfl, rfl, rfl, rfl, H1, H2, HB⟩ := hcut
    obtain ⟨fw, hfw⟩ := HFew.out wc HB.out
    have HFw := Lib.hid hfw
    have y0 : wc.cell? ⟨K1, 0, none⟩ = some (.bool b1) := blk_cell H1.out 0
    have y1 : wc.cell? ⟨K1, 1, none⟩ = some (.bool b2) := blk_cell H1.out 1
    have y2 : wc.cell? ⟨K1, 2, none⟩ = some (.bool b3) := blk_cell H1.out 2
    have x0 : wc.cell? ⟨K2, 0, none⟩ = some (.string nm) := blk_cell H2.out 0
    have x1 : wc.cell? ⟨K2, 1, none⟩ = some (.string v) := blk_cell H2.out 1
    clear hfw HFew
    go_wp2_with fail
    refine HFw.out.mono ?_
    rintro en w1 ⟨rfl, hb⟩
    have HB1 := Lib.hid (below_then' HB.out hb)
    have H11 := Lib.hid (blk_below H1.out hb)
    have H12 := Lib.hid (blk_below H2.out hb)
    clear hb y0 y1 y2 x0 x1
    have y0 : w1.cell? ⟨K1, 0, none⟩ = some (.bool b1) := blk_cell H11.out 0
    have y1 : w1.cell? ⟨K1, 1, none⟩ = some (.bool b2) := blk_cell H11.out 1
    have y2 : w1.cell? ⟨K1, 2, none⟩ = some (.bool b3) := blk_cell H11.out 2
    have x0 : w1.cell? ⟨K2, 0, none⟩ = some (.string nm) := blk_cell H12.out 0
    have x1 : w1.cell? ⟨K2, 1, none⟩ = some (.string v) := blk_cell H12.out 1
    cases fw with
    | false =>
      go_wp2_with fail
      refine (HL.out w1 HB1.out).mono ?_
      rintro en w2 ⟨rfl, hb⟩
      have HB2 := Lib.hid (below_then' HB1.out hb)
      clear hb
      go_wp2_with fail
      go_ret
      exact ⟨rfl, HB2.out⟩
    | true =>
      obtain ⟨p, hpv⟩ : ∃ p, valueF b1 b2 l e.data.toList nm.data.toList v.data.toList = p := ⟨_, rfl⟩
      rw [hpv] at HV hvl hva
      obtain ⟨r, ok⟩ := p
      obtain ⟨rb, hrb⟩ : ∃ rb : ByteArray, (⟨r.toArray⟩ : ByteArray) = rb := ⟨_, rfl⟩
      have hrl : r = rb.data.toList := by rw [← hrb]
      have hrs : rb.size < 4294967200 := by
        have h1 : r.length ≤ (v.data.toList.length + 1) * 124 := hvl
        rw [hrl, ← Lib.size_eq, ← Lib.size_eq] at h1
        omega
      replace HV := Lib.hid (HV.out w1 HB1.out)
      rw [show (⟨(r, ok).1.toArray⟩ : ByteArray) = rb from hrb] at HV
      have HOff := Lib.hid (show ok = false → rb.toList = [] from fun hok => by
        have h1 := hpv
        unfold valueF at h1
        rw [ByteArray.toList_eq, ← hrl]
        split at h1
        · split at h1
          · injection h1 with _ h2
            rw [← h2] at hok
            cases hok
          · injection h1 with h1 _
            exact h1.symm
        · injection h1 with h1 _
          exact h1.symm)
      clear hrb hpv hvl
      cases ok with
      | false =>
        have e0 := HOff.out rfl
        have e0b : rb.toList.isEmpty = true := by rw [e0]; rfl
        go_wp2_with fail
        refine HV.out.mono ?_
        rintro en w2 ⟨rfl, hb⟩
        have HB2 := Lib.hid (below_then' HB1.out hb)
        clear hb y0 y1 y2 x0 x1
        go_wp2_with fail
        refine (HL.out w2 HB2.out).mono ?_
        rintro en w3 ⟨rfl, hb⟩
        have HB3 := Lib.hid (below_then' HB2.out hb)
        clear hb
        go_wp2_with fail
        go_ret
        exact ⟨rfl, HB3.out⟩
      | true =>
        obtain ⟨ha, hbk, hat⟩ := hva rfl
        have ha2 : valueF b1 b2 l e.data.toList nm.data.toList rb.data.toList = (rb.data.toList, true) := by rw [← hrl]; exact ha
        have hbk2 : blockF b1 e.data.toList nm.data.toList rb.data.toList = false := by rw [← hrl]; exact hbk
        replace HV2 := Lib.hid (fun w1 hb => by have := HV2.out rb hrs w1 hb; rwa [ha2] at this)
        replace HBl := Lib.hid (fun w1 hb => by have := HBl.out rb hrs w1 hb; rwa [hbk2] at this)
        rw [hat] at HAt
        clear ha hbk hat ha2 hbk2 hva HOff hrl hrs
        go_wp2_with fail
        refine HV.out.mono ?_
        rintro en w2 ⟨rfl, hb⟩
        have HB2 := Lib.hid (below_then' HB1.out hb)
        have G1 := Lib.hid (blk_below H11.out hb)
        have G2 := Lib.hid (blk_below H12.out hb)
        clear hb y0 y1 y2 x0 x1
        have y0 : w2.cell? ⟨K1, 0, none⟩ = some (.bool b1) := blk_cell G1.out 0
        have y1 : w2.cell? ⟨K1, 1, none⟩ = some (.bool b2) := blk_cell G1.out 1
        have y2 : w2.cell? ⟨K1, 2, none⟩ = some (.bool b3) := blk_cell G1.out 2
        have x0 : w2.cell? ⟨K2, 0, none⟩ = some (.string nm) := blk_cell G2.out 0
        have hb3 : Below w2.heap.size w2 (w2.alloc (.cells #[.string nm, .string rb] 29)) := (Below.refl _ _).alloc (Nat.le_refl _) _
        have z0 := cell_later hb3 y0
        have z1 := cell_later hb3 y1
        have z2 := cell_later hb3 y2
        have HB3 := Lib.hid (below_then' HB2.out hb3)
        have G3 := Lib.hid (blk_below G1.out hb3)
        have L3 := Lib.hid (show (w2.alloc (.cells #[.string nm, .string rb] 29)).heap[w2.heap.size]? = some (.cells #[.string nm, .string rb] 29 (0, 0)) from blk_new _ _)
        have G23 := Lib.hid (blk_below G2.out hb3)
        clear hb3
        go_wp2_with fail
        refine (HV2.out _ HB3.out).mono ?_
        rintro en w4 ⟨rfl, hb⟩
        have HB4 := Lib.hid (below_then' HB3.out hb)
        have G4 := Lib.hid (blk_below G3.out hb)
        have G24 := Lib.hid (blk_below G23.out hb)
        have L4 := Lib.hid (blk_below L3.out hb)
        clear hb y0 y1 y2 x0 z0 z1 z2
        have y0 : w4.cell? ⟨K1, 0, none⟩ = some (.bool b1) := blk_cell G4.out 0
        have y1 : w4.cell? ⟨K1, 1, none⟩ = some (.bool b2) := blk_cell G4.out 1
        have y2 : w4.cell? ⟨K1, 2, none⟩ = some (.bool b3) := blk_cell G4.out 2
        have x0 : w4.cell? ⟨w2.heap.size, 0, none⟩ = some (.string nm) := blk_cell L4.out 0
        have x1 : w4.cell? ⟨w2.heap.size, 1, none⟩ = some (.string rb) := blk_cell L4.out 1
        go_wp2_with fail
        refine (HBl.out w4 HB4.out).mono ?_
        rintro en w5 ⟨rfl, hb⟩
        have HB5 := Lib.hid (below_then' HB4.out hb)
        have G25 := Lib.hid (blk_below G24.out hb)
        clear hb y0 y1 y2 x0 x1
        have x0 : w5.cell? ⟨K2, 0, none⟩ = some (.string nm) := blk_cell G25.out 0
        go_wp2_with fail
        refine (HAt.out w5 HB5.out).mono ?_
        rintro en w6 ⟨rfl, hb⟩
        have HB6 := Lib.hid (below_then' HB5.out hb)
        clear hb x0
        go_wp2_with fail
        refine (HL.out w6 HB6.out).mono ?_
        rintro en w7 ⟨rfl, hb⟩
        have HB7 := Lib.hid (below_then' HB6.out hb)
        clear hb
        go_wp2_with fail
        go_ret
        exact ⟨rfl, HB7.out⟩

/-- The law, as the card asks for it. -/
theorem again_case (b1 b2 b3 : Bool) (A : Option Addr) (c : Nat) (l : List S39) (e nm v : ByteArray) (w : World) (hG : Good w) (he : e.size ≤ 1048576) (hn : nm.size ≤ 1048576) (hv : v.size ≤ 1048576) (hC : Kd.C k39 w A l.length l) (hc : l.length ≤ c) (hl : l.length ≤ 1048576)
    (hls : ∀ x ∈ l, x.f0.size + x.f1.size + x.f2.size + x.f3.size ≤ 1048576) :
    Calls Tryz.prog 5 #[.agg #[.bool b1, .bool b2, .bool b3, .slice A l.length c, .string e, .string nm, .string v]] w fun en w' => en = .returned (.bool true) ∧ Below w.heap.size w w' :=
  again_any b1 b2 b3 A c l e nm v w hG he hn hv hC hc hl
end Go.Proofs.YtchooidhieaphaaGreatDoor
