/- The law RulesSafe returns true. Conditions: texts below 2^32 - 96 bytes; fewer than 2^32 - 96 parts. -/
import Derived.Test.YtchooidhieaphaaGreatDoorValueAll
import Derived.Test.YtchooidhieaphaaGreatDoorSafeFacts
import Derived.Deep.DeepCutAuto
set_option linter.unusedVariables false
set_option linter.unusedSimpArgs false
namespace Go.Proofs.YtchooidhieaphaaGreatDoor
open Go.RowKit Go.Proofs.YtchooidhieaphaaGreatDoorW.PrintWords PRulesValues

theorem three_below (w : World) (a b c : Obj) : Below w.heap.size w (((w.alloc a).alloc b).alloc c).drew :=
  Below.drew ((two_below w a b).alloc (by rw [alloc_size, alloc_size]; omega) c)
theorem three_mid (w : World) (a b c : Obj) : (((w.alloc a).alloc b).alloc c).drew.heap[w.heap.size + 1]? = some b := by
  have := blk_new (w.alloc a) b
  rw [alloc_size] at this
  exact blk_drew (blk_alloc this c)
theorem three_last (w : World) (a b c : Obj) : (((w.alloc a).alloc b).alloc c).drew.heap[w.heap.size + 1 + 1]? = some c := by
  have := blk_new ((w.alloc a).alloc b) c
  rw [alloc_size, alloc_size] at this
  exact blk_drew this

/-- Whether one of the first k parts is the one that is named, and an image. -/
def anyF (l : List S39) (r : List UInt8) : Nat → Bool
  | 0 => false
  | k + 1 => anyF l r k || (match l[k]? with | some x => decide (r = attB ++ Lib.itoa (k : Nat)) && beginsF x.f1.data.toList [105, 109, 97, 103, 101, 47] | none => false)
theorem anyF_hit (l : List S39) (r : List UInt8) (i : Nat) (x : S39) (hx : l[i]? = some x) (hr : r = attB ++ Lib.itoa (i : Nat)) (hb : beginsF x.f1.data.toList [105, 109, 97, 103, 101, 47] = true) : ∀ k, i < k → anyF l r k = true
  | 0, h => absurd h (Nat.not_lt_zero _)
  | k + 1, h => by
    unfold anyF
    by_cases e : i = k
    · subst e
      rw [hx]
      simp [hr, hb]
    · rw [anyF_hit l r i x hx hr hb k (by omega), Bool.true_or]
set_option maxRecDepth 100000 in
set_option maxHeartbeats 6400000 in
theorem safeLaw_any (b1 b2 b3 : Bool) (A : Option Addr) (c : Nat) (l : List S39) (e nm v : ByteArray) (w : World) (hG : Good w) (he : e.size < 4294967200) (hn : nm.size < 4294967200) (hv : v.size < 4294967200) (hC : Kd.C k39 w A l.length l) (hc : l.length ≤ c) (hl : l.length < 4294967200) (hls : ∀ x ∈ l, x.f1.size < 4294967200) :
    Calls Tryz.prog 6 #[.agg #[.bool b1, .bool b2, .bool b3, .slice A l.length c, .string e, .string nm, .string v]] w fun en w' => en = .returned (.bool true) ∧ Below w.heap.size w w' := by
  have HL := Lib.hid (fun w1 (hb : Below w.heap.size w w1) => live_any w1 (hG.below hb))
  have HFew := Lib.hid (fun w1 (hb : Below w.heap.size w w1) => few_any A c l nm v w1 (Kd.C_below hC hb) hc (by omega))
  have HV := Lib.hid (fun w1 (hb : Below w.heap.size w w1) => value_any b1 b2 b3 A c l e nm v w1 (hG.below hb) (by omega) (by omega) hv (Kd.C_below hC hb) (by omega))
  have HCC := Lib.hid hC
  clear hG hC
  go_enter Tryz.func6, Tryz.ntmps6
  go_upto_region 1 with (fail)
  go_cut [3, 4, 5, 6] (fun p f el a wr => ∃ K1 K2 : Nat, p = .pointer (some ⟨K1, 0, none⟩) ∧ f = .slice A l.length c ∧ el = .string e ∧ a = .pointer (some ⟨K2, 0, none⟩) ∧ Hid (wr.heap[K1]? = some (.cells #[.bool b1, .bool b2, .bool b3] 26 (0, 0))) ∧ Hid (wr.heap[K2]? = some (.cells #[.string nm, .string v] 29 (0, 0))) ∧ Hid (Below w.heap.size w wr))
  case first =>
    go_region
    · go_wp2_with fail
      go_meet
      case rel =>
        refine ⟨w.heap.size + 1, w.heap.size + 1 + 1, rfl, rfl, rfl, rfl, Lib.hid ?_, Lib.hid ?_, Lib.hid ?_⟩
        · exact three_mid _ _ _ _
        · exact three_last _ _ _ _
        · exact three_below _ _ _ _
    · go_wp2_with fail
      go_meet
      case rel =>
        refine ⟨w.heap.size + 1 + 1, w.heap.size + 1, rfl, rfl, rfl, rfl, Lib.hid ?_, Lib.hid ?_, Lib.hid ?_⟩
        · exact three_last _ _ _ _
        · exact three_mid _ _ _ _
        · exact three_below _ _ _ _
  case rest =>
    obtain ⟨K1, K2, rfl, rfl, rfl, rfl, H1, H2, HB⟩ := hcut
    obtain ⟨fw, hfw⟩ := HFew.out wc HB.out
    have HFw := Lib.hid hfw
    have y0 : wc.cell? ⟨K1, 0, none⟩ = some (.bool b1) := blk_cell H1.out 0
    have y1 : wc.cell? ⟨K1, 1, none⟩ = some (.bool b2) := blk_cell H1.out 1
    have y2 : wc.cell? ⟨K1, 2, none⟩ = some (.bool b3) := blk_cell H1.out 2
    have x0 : wc.cell? ⟨K2, 0, none⟩ = some (.string nm) := blk_cell H2.out 0
    have x1 : wc.cell? ⟨K2, 1, none⟩ = some (.string v) := blk_cell H2.out 1
    clear hfw HFew
    go_wp2_with fail
    refine HFw.out.mono ?_
    rintro en w1 ⟨rfl, hb⟩
    have HB1 := Lib.hid (below_then' HB.out hb)
    have H11 := Lib.hid (blk_below H1.out hb)
    have H12 := Lib.hid (blk_below H2.out hb)
    clear hb y0 y1 y2 x0 x1
    have y0 : w1.cell? ⟨K1, 0, none⟩ = some (.bool b1) := blk_cell H11.out 0
    have y1 : w1.cell? ⟨K1, 1, none⟩ = some (.bool b2) := blk_cell H11.out 1
    have y2 : w1.cell? ⟨K1, 2, none⟩ = some (.bool b3) := blk_cell H11.out 2
    have x0 : w1.cell? ⟨K2, 0, none⟩ = some (.string nm) := blk_cell H12.out 0
    have x1 : w1.cell? ⟨K2, 1, none⟩ = some (.string v) := blk_cell H12.out 1
    cases fw with
    | false =>
      go_wp2_with fail
      refine (HL.out w1 HB1.out).mono ?_
      rintro en w2 ⟨rfl, hb⟩
      have HB2 := Lib.hid (below_then' HB1.out hb)
      clear hb
      go_wp2_with fail
      go_ret
      exact ⟨rfl, HB2.out⟩
    | true =>
      obtain ⟨p, hpv⟩ : ∃ p, valueF b1 b2 l e.data.toList nm.data.toList v.data.toList = p := ⟨_, rfl⟩
      have hVA := fun h => value_attr (b1 := b1) (b2 := b2) (l := l) (e := e.data.toList) (n := nm.data.toList) (v := v.data.toList) h
      rw [hpv] at HV hVA
      obtain ⟨r, ok⟩ := p
      obtain ⟨rb, hrb⟩ : ∃ rb : ByteArray, (⟨r.toArray⟩ : ByteArray) = rb := ⟨_, rfl⟩
      have hrl : r = rb.data.toList := by rw [← hrb]
      replace HV := Lib.hid (HV.out w1 HB1.out)
      rw [show (⟨(r, ok).1.toArray⟩ : ByteArray) = rb from hrb] at HV
      clear hrb hpv
      cases ok with
      | false =>
        go_wp2_with fail
        refine HV.out.mono ?_
        rintro en w2 ⟨rfl, hb⟩
        have HB2 := Lib.hid (below_then' HB1.out hb)
        have G1 := Lib.hid (blk_below H11.out hb)
        have G2 := Lib.hid (blk_below H12.out hb)
        clear hb y0 y1 y2 x0 x1
        have y0 : w2.cell? ⟨K1, 0, none⟩ = some (.bool b1) := blk_cell G1.out 0
        have x0 : w2.cell? ⟨K2, 0, none⟩ = some (.string nm) := blk_cell G2.out 0
        go_wp2_with fail
        refine (HL.out w2 HB2.out).mono ?_
        rintro en w3 ⟨rfl, hb⟩
        have HB3 := Lib.hid (below_then' HB2.out hb)
        clear hb
        go_wp2_with fail
        go_ret
        exact ⟨rfl, HB3.out⟩
      | true =>
        obtain ⟨hat, hj, hr1⟩ := hVA rfl
        obtain ⟨nb1, nb2, nb3⟩ := attr_bad _ _ hat
        clear hVA
        by_cases hn1 : nm.data.toList = [104, 114, 101, 102]
        · have e1 := beq_yes hn1
          rw [hn1] at hat hj hr1
          have ea := beq_yes (attr_href _ hat)
          have hm : methOf [104, 114, 101, 102] = 23 := by decide
          rw [hm] at hj hr1
          have hr2 : r = (hrefF v.data.toList).1 := hr1
          have hb3 := href_begins v.data.toList hj
          rw [← hr2, hrl] at hb3
          have hsz : rb.size < 4294967296 := by
            have h1 : r.length ≤ v.data.toList.length := by
              rw [hr2]
              unfold hrefF
              split
              · exact cleanF_le _
              · simp
            rw [hrl, ← Lib.size_eq, ← Lib.size_eq] at h1
            omega
          have Q := Lib.hid (fun (p : ByteArray) (wx : World) => begins_any rb p wx hsz)
          have Q1 := Lib.hid (fun wx => Q.out ⟨#[104, 116, 116, 112, 58]⟩ wx)
          have Q2 := Lib.hid (fun wx => Q.out ⟨#[104, 116, 116, 112, 115, 58]⟩ wx)
          have Q3 := Lib.hid (fun wx => Q.out ⟨#[109, 97, 105, 108, 116, 111, 58]⟩ wx)
          obtain ⟨q1, hq1⟩ : ∃ q1, beginsF rb.data.toList (⟨#[104, 116, 116, 112, 58]⟩ : ByteArray).data.toList = q1 := ⟨_, rfl⟩
          obtain ⟨q2, hq2⟩ : ∃ q2, beginsF rb.data.toList (⟨#[104, 116, 116, 112, 115, 58]⟩ : ByteArray).data.toList = q2 := ⟨_, rfl⟩
          obtain ⟨q3, hq3⟩ : ∃ q3, beginsF rb.data.toList (⟨#[109, 97, 105, 108, 116, 111, 58]⟩ : ByteArray).data.toList = q3 := ⟨_, rfl⟩
          rw [hq1] at Q1
          rw [hq2] at Q2
          rw [hq3] at Q3
          have hqq : q1 = true ∨ q2 = true ∨ q3 = true := by rw [← hq1, ← hq2, ← hq3]; exact hb3
          clear hq1 hq2 hq3 hb3 Q hsz hr1 hr2 hj hat hn1 nb1 nb2 nb3 hm hrl
          go_wp2_with fail
          refine HV.out.mono ?_
          rintro en w2 ⟨rfl, hb⟩
          have HB2 := Lib.hid (below_then' HB1.out hb)
          have G1 := Lib.hid (blk_below H11.out hb)
          have G2 := Lib.hid (blk_below H12.out hb)
          clear hb y0 y1 y2 x0 x1
          have y0 : w2.cell? ⟨K1, 0, none⟩ = some (.bool b1) := blk_cell G1.out 0
          have x0 : w2.cell? ⟨K2, 0, none⟩ = some (.string nm) := blk_cell G2.out 0
          go_wp2_with fail
          refine (Q1.out w2).mono ?_
          rintro en w3 ⟨rfl, hb⟩
          have HB3 := Lib.hid (below_then' HB2.out hb)
          clear hb y0 x0
          cases q1 with
          | true =>
            go_wp2_with fail
            refine (HL.out w3 HB3.out).mono ?_
            rintro en w6 ⟨rfl, hb⟩
            have HB6 := Lib.hid (below_then' HB3.out hb)
            clear hb
            go_wp2_with fail
            go_ret
            exact ⟨rfl, HB6.out⟩
          | false =>
            go_wp2_with fail
            refine (Q2.out w3).mono ?_
            rintro en w4 ⟨rfl, hb⟩
            have HB4 := Lib.hid (below_then' HB3.out hb)
            clear hb
            cases q2 with
            | true =>
              go_wp2_with fail
              refine (HL.out w4 HB4.out).mono ?_
              rintro en w6 ⟨rfl, hb⟩
              have HB6 := Lib.hid (below_then' HB4.out hb)
              clear hb
              go_wp2_with fail
              go_ret
              exact ⟨rfl, HB6.out⟩
            | false =>
              obtain rfl : q3 = true := by
                rcases hqq with h | h | h
                · cases h
                · cases h
                · exact h
              go_wp2_with fail
              refine (Q3.out w4).mono ?_
              rintro en w5 ⟨rfl, hb⟩
              have HB5 := Lib.hid (below_then' HB4.out hb)
              clear hb
              go_wp2_with fail
              refine (HL.out w5 HB5.out).mono ?_
              rintro en w6 ⟨rfl, hb⟩
              have HB6 := Lib.hid (below_then' HB5.out hb)
              clear hb
              go_wp2_with fail
              go_ret
              exact ⟨rfl, HB6.out⟩
        · by_cases hn2 : nm.data.toList = [115, 114, 99]
          · have e1 := beq_no hn1
            have e2 := beq_yes hn2
            rw [hn2] at hat hj hr1
            have ea := beq_yes (attr_src _ hat)
            have hm : methOf [115, 114, 99] = 24 := by decide
            rw [hm] at hj hr1
            have hr2 : r = (srcF b1 l v.data.toList).1 := hr1
            have hsb := src_begins b1 l v.data.toList hj
            rw [← hr2] at hsb
            have hsz : rb.size < 4294967296 := by
              have h1 : r.length ≤ v.data.toList.length + 25 := by
                rw [hr2]
                unfold srcF srcG
                split
                · exact Nat.le_trans (cleanF_le _) (by omega)
                · split
                  · rename_i hh
                    have := Lib.itoa_length_le (srcN l v.data.toList) (by omega) (by have := hh.2.1; omega)
                    have h4 : attB.length = 4 := rfl
                    simp only [List.length_append]
                    omega
                  · simp
              rw [hrl, ← Lib.size_eq, ← Lib.size_eq] at h1
              omega
            have Q2 := Lib.hid (fun (wx : World) => begins_any rb ⟨#[104, 116, 116, 112, 115, 58]⟩ wx hsz)
            obtain ⟨q2, hq2⟩ : ∃ q2, beginsF rb.data.toList (⟨#[104, 116, 116, 112, 115, 58]⟩ : ByteArray).data.toList = q2 := ⟨_, rfl⟩
            rw [hq2] at Q2
            have HEnd := Lib.hid (show anyF l r l.length = false → b1 = true ∧ q2 = true from fun hno => by
              rcases hsb with ⟨h1, h2⟩ | ⟨i, x, hx, hrx, hbx⟩
              · rw [hrl] at h2
                exact ⟨h1, by rw [← hq2]; exact h2⟩
              · rw [anyF_hit l r i x hx hrx hbx l.length (List.getElem?_eq_some_iff.1 hx).1] at hno
                cases hno)
            have HRL := Lib.hid hrl
            have HLS := Lib.hid hls
            clear hq2 hsb hr1 hr2 hj hat hn1 hn2 nb1 nb2 nb3 hm hrl hsz hls
            go_wp2_with fail
            refine HV.out.mono ?_
            rintro en w2 ⟨rfl, hb⟩
            have HB2 := Lib.hid (below_then' HB1.out hb)
            have G1 := Lib.hid (blk_below H11.out hb)
            have G2 := Lib.hid (blk_below H12.out hb)
            clear hb y0 y1 y2 x0 x1
            have x0 : w2.cell? ⟨K2, 0, none⟩ = some (.string nm) := blk_cell G2.out 0
            have HC2 := Lib.hid (Kd.C_below HCC.out HB2.out)
            go_wp2_with fail
            go_loopw [9, 10] (fun f i wr => Below w2.heap.size w2 wr ∧ ∃ k : Nat, i = .int .i64 (k : Int) ∧ k ≤ l.length ∧ f = .bool (anyF l r k)) (fun _ i _ => l.length - (intOf i).toNat)
            case atStart => exact ⟨Below.refl _ _, 0, rfl, Nat.zero_le _, rfl⟩
            case round =>
              obtain ⟨hBr, k, rfl, hk, rfl⟩ := hrel
              have HBr := Lib.hid hBr
              by_cases hlt : k < l.length
              · obtain ⟨x, hx⟩ : ∃ x, l[k]? = some x := ⟨_, List.getElem?_eq_getElem hlt⟩
                obtain ⟨ad, rfl, c0, c1, c2, c3⟩ := at_T39 (Kd.C_below HC2.out hBr) (k : Int) (by omega) (by omega)
                have hr : rd_T39 l (k : Int) = x := by
                  show l.getD (k : Int).toNat z39 = x
                  rw [List.getD_eq_getElem?_getD, Int.toNat_natCast, hx]; rfl
                rw [hr] at c0 c1 c2 c3
                rw [Int.toNat_natCast] at c0 c1 c2 c3
                have hfs := HLS.out x (List.mem_of_getElem? hx)
                have HQi := Lib.hid (fun wx => begins_any x.f1 ⟨#[105, 109, 97, 103, 101, 47]⟩ wx (by omega))
                have HNu := Lib.hid (fun wx => number_any k wx (by omega))
                have hil := Lib.itoa_length_le (k : Int) (by omega) (by omega)
                rw [← size_mk] at hil
                obtain ⟨ib, hib⟩ : ∃ ib : ByteArray, (⟨(Lib.itoa (k : Int)).toArray⟩ : ByteArray) = ib := ⟨_, rfl⟩
                have hibl : ((⟨#[97, 116, 116, 58]⟩ : ByteArray) ++ ib).toList = attB ++ Lib.itoa (k : Int) := by
                  rw [← hib, ByteArray.toList_eq]
                  simp [ByteArray.data_append, attB]
                rw [hib] at HNu hil
                obtain ⟨qi, hqi⟩ : ∃ qi, beginsF x.f1.data.toList (⟨#[105, 109, 97, 103, 101, 47]⟩ : ByteArray).data.toList = qi := ⟨_, rfl⟩
                rw [hqi] at HQi
                obtain ⟨f, hf⟩ : ∃ f, anyF l r k = f := ⟨_, rfl⟩
                have hnext : anyF l r (k + 1) = (f || (decide (r = attB ++ Lib.itoa (k : Int)) && qi)) := by
                  show (anyF l r k || _) = _
                  rw [hf, hx]
                  show (f || (decide (r = attB ++ Lib.itoa (k : Int)) && beginsF x.f1.data.toList [105, 109, 97, 103, 101, 47])) = _
                  rw [← hqi]
                rw [hf]
                have hdec : decide (r = attB ++ Lib.itoa (k : Int)) = (rb.toList == ((⟨#[97, 116, 116, 58]⟩ : ByteArray) ++ ib).toList) := by
                  rw [hibl, ByteArray.toList_eq, ← HRL.out]
                  exact same_dec _ _
                rw [hdec] at hnext
                obtain ⟨dq, hdq⟩ : ∃ dq, (rb.toList == ((⟨#[97, 116, 116, 58]⟩ : ByteArray) ++ ib).toList) = dq := ⟨_, rfl⟩
                rw [hdq] at hnext
                have HNx := Lib.hid hnext
                clear hnext hdec hf hqi hib hibl hr hx hBr c0 c2 c3 hfs
                cases f with
                | true =>
                  go_wp2_with fail
                  go_roundw
                  case rel => exact ⟨HBr.out, k + 1, by go_num, by omega, by rw [HNx.out]; rfl⟩
                  case measure => simp [intOf]; omega
                | false =>
                  go_wp2_with fail
                  refine (HNu.out wr).mono ?_
                  rintro en w4 ⟨rfl, hb⟩
                  have HB4 := Lib.hid (below_then' HBr.out hb)
                  have c1' := cell_later hb c1
                  clear hb c1
                  cases dq with
                  | false =>
                    go_wp2_with fail
                    go_roundw
                    case rel => exact ⟨HB4.out, k + 1, by go_num, by omega, by rw [HNx.out]; rfl⟩
                    case measure => simp [intOf]; omega
                  | true =>
                    go_wp2_with fail
                    refine (HQi.out w4).mono ?_
                    rintro en w5 ⟨rfl, hb⟩
                    have HB5 := Lib.hid (below_then' HB4.out hb)
                    clear hb c1'
                    go_wp2_with fail
                    go_roundw
                    case rel => exact ⟨HB5.out, k + 1, by go_num, by omega, by rw [HNx.out]; rfl⟩
                    case measure => simp [intOf]; omega
              · have hkl : k = l.length := by omega
                subst hkl
                have HB4 := Lib.hid (below_then' HB2.out hBr)
                have y0 : wr.cell? ⟨K1, 0, none⟩ = some (.bool b1) := blk_cell (blk_below G1.out hBr) 0
                obtain ⟨f, hf⟩ : ∃ f, anyF l r l.length = f := ⟨_, rfl⟩
                rw [hf] at HEnd ⊢
                clear hf hBr
                cases f with
                | true =>
                  go_wp2_with fail
                  refine (HL.out wr HB4.out).mono ?_
                  rintro en w6 ⟨rfl, hb⟩
                  have HB6 := Lib.hid (below_then' HB4.out hb)
                  clear hb
                  go_wp2_with fail
                  go_ret
                  exact ⟨rfl, HB6.out⟩
                | false =>
                  obtain ⟨rfl, rfl⟩ := HEnd.out rfl
                  go_wp2_with fail
                  refine (Q2.out wr).mono ?_
                  rintro en w5 ⟨rfl, hb⟩
                  have HB5 := Lib.hid (below_then' HB4.out hb)
                  clear hb
                  go_wp2_with fail
                  refine (HL.out w5 HB5.out).mono ?_
                  rintro en w6 ⟨rfl, hb⟩
                  have HB6 := Lib.hid (below_then' HB5.out hb)
                  clear hb
                  go_wp2_with fail
                  go_ret
                  exact ⟨rfl, HB6.out⟩
          · have e1 := beq_no hn1
            have e2 := beq_no hn2
            have e3 := beq_no nb1
            have e4 := beq_no nb2
            have e5 := beq_no nb3
            clear hn1 hn2 nb1 nb2 nb3 hj hr1 hat hrl
            go_wp2_with fail
            refine HV.out.mono ?_
            rintro en w2 ⟨rfl, hb⟩
            have HB2 := Lib.hid (below_then' HB1.out hb)
            have G1 := Lib.hid (blk_below H11.out hb)
            have G2 := Lib.hid (blk_below H12.out hb)
            clear hb y0 y1 y2 x0 x1
            have y0 : w2.cell? ⟨K1, 0, none⟩ = some (.bool b1) := blk_cell G1.out 0
            have x0 : w2.cell? ⟨K2, 0, none⟩ = some (.string nm) := blk_cell G2.out 0
            go_wp2_with fail
            refine (HL.out w2 HB2.out).mono ?_
            rintro en w3 ⟨rfl, hb⟩
            have HB3 := Lib.hid (below_then' HB2.out hb)
            clear hb
            go_wp2_with fail
            go_ret
            exact ⟨rfl, HB3.out⟩

/-- The law, as the card asks for it. -/
theorem safe_case (b1 b2 b3 : Bool) (A : Option Addr) (c : Nat) (l : List S39) (e nm v : ByteArray) (w : World) (hG : Good w) (he : e.size ≤ 1048576) (hn : nm.size ≤ 1048576) (hv : v.size ≤ 1048576) (hC : Kd.C k39 w A l.length l) (hc : l.length ≤ c) (hl : l.length ≤ 1048576)
    (hls : ∀ x ∈ l, x.f0.size + x.f1.size + x.f2.size + x.f3.size ≤ 1048576) :
    Calls Tryz.prog 6 #[.agg #[.bool b1, .bool b2, .bool b3, .slice A l.length c, .string e, .string nm, .string v]] w fun en w' => en = .returned (.bool true) ∧ Below w.heap.size w w' :=
  safeLaw_any b1 b2 b3 A c l e nm v w hG (by omega) (by omega) (by omega) hC hc (by omega) (fun x hx => by have := hls x hx; omega)
end Go.Proofs.YtchooidhieaphaaGreatDoor
