/- link.Scheme, link.Kind and rules.Blocked return what schemeF, kindF and blockF say. Condition: texts below 2^32 - 96 bytes. -/
import Derived.Test.YtchooidhieaphaaGreatDoorCleanAll
import Derived.Test.YtchooidhieaphaaGreatDoorAttrAll
set_option linter.unusedVariables false
set_option linter.unusedSimpArgs false
namespace Go.Proofs.YtchooidhieaphaaGreatDoor
open Go.RowKit Go.Proofs.YtchooidhieaphaaGreatDoorW.PrintWords
def lowB (c : UInt8) : Bool := decide (97 ≤ c.toNat) && decide (c.toNat ≤ 122)
def letterB (c : UInt8) : Bool := lowB c || upperB c
def digitB (c : UInt8) : Bool := decide (48 ≤ c.toNat) && decide (c.toNat ≤ 57)
/-- What a scheme's name is made of. -/
def schB (c : UInt8) : Bool := letterB c || digitB c || (c == 43 || c == 45 || c == 46)
theorem or_letter : ∀ n : Fin 256, (decide (97 ≤ Go.bits .or .u8 (n.val : Int) 32) && decide (Go.bits .or .u8 (n.val : Int) 32 ≤ 122)) = ((decide (97 ≤ n.val) && decide (n.val ≤ 122)) || (decide (65 ≤ n.val) && decide (n.val ≤ 90))) := by decide +kernel
theorem or_letter' (x : UInt8) : (decide (97 ≤ Go.bits .or .u8 (x.toNat : Int) 32) && decide (Go.bits .or .u8 (x.toNat : Int) 32 ≤ 122)) = letterB x := or_letter ⟨x.toNat, x.toNat_lt⟩
theorem isLetter_any (x : UInt8) (w : World) : Calls Tryz.prog 88 #[.int .u8 (x.toNat : Int)] w fun e w' => e = .returned (.bool (letterB x)) ∧ w = w' := by
  have h := Lib.hid (or_letter' x)
  go_enter Tryz.func88, Tryz.ntmps88
  go_wp2_with fail
  · have h1 : 97 ≤ Go.bits .or .u8 (x.toNat : Int) 32 := by assumption
    go_ret
    refine ⟨ret_bool ?_, rfl⟩
    rw [← h.out, decide_eq_true h1, Bool.true_and]
  · have h1 : Go.bits .or .u8 (x.toNat : Int) 32 < 97 := by assumption
    go_ret
    refine ⟨ret_bool ?_, rfl⟩
    rw [← h.out, decide_eq_false (by omega), Bool.false_and]
/-- A scheme out of what stands ahead of the first colon. -/
def schemeOf (n : List UInt8) (f : Bool) : List UInt8 × Bool :=
  if f = true ∧ n ≠ [] ∧ letterB (n.headD 0) = true ∧ n.all schB = true then (n.map smallB, true) else ([], false)
/-- What link.Scheme tells. -/
def schemeF (l : List UInt8) : List UInt8 × Bool := schemeOf (Lib.cut (cleanF l) [58]).1 (Lib.cut (cleanF l) [58]).2.2
theorem cut_any (s : ByteArray) (c : UInt8) (w : World) (hG : Good w) (hs : s.size < 4294967281) :
    Calls Tryz.prog 41 #[.string s, .string ⟨#[c]⟩] w fun e w' => e = .returned (.tuple #[.string ⟨(Lib.cut s.data.toList [c]).1.toArray⟩, .string ⟨(Lib.cut s.data.toList [c]).2.1.toArray⟩, .bool (Lib.cut s.data.toList [c]).2.2]) ∧ Below w.heap.size w w' := by
  obtain ⟨m, hm⟩ := hG.maxlen
  exact (Tryz.strings_Cut s ⟨#[c]⟩ m w hs hm).mono fun _ _ h => ⟨h.1, by obtain ⟨n, rfl⟩ := h.2; exact below_drewN' (Below.refl _ _) n⟩
theorem idx_any (s : ByteArray) (x : UInt8) (w : World) : Calls Tryz.prog 89 #[.string s, .int .u8 (x.toNat : Int)] w fun e w' => e = .returned (.int .i64 (Lib.indexByte s.data.toList x)) ∧ w = w' := by
  refine (Tryz.strings_IndexByte s (x.toNat : Int) w).mono fun _ _ h => ⟨?_, h.2.symm⟩
  rw [h.1, show (x.toNat : Int).toNat.toUInt8 = x from by simp]
theorem indexByte_lt (l : List UInt8) (x : UInt8) : (Lib.indexByte l x < 0 ↔ x ∉ l) := by
  induction l with
  | nil => simp [Lib.indexByte]
  | cons b l ih =>
    have hge := Lib.indexByte_ge l x
    unfold Lib.indexByte
    by_cases e : b = x
    · subst e; simp
    · have e' : (b == x) = false := by simpa using e
      rw [e']
      simp only [Bool.false_eq_true, if_false, List.mem_cons, not_or]
      by_cases h1 : Lib.indexByte l x = -1
      · rw [h1]
        have := ih.1 (by omega)
        simp [this]
        exact fun h => e h.symm
      · have h2 : (Lib.indexByte l x == -1) = false := by simpa using h1
        rw [h2]
        simp only [Bool.false_eq_true, if_false]
        have : ¬ (x ∉ l) := fun h => by have := ih.2 h; omega
        constructor
        · intro h; omega
        · intro h; exact absurd h.2 this
theorem cut_le (l c : List UInt8) : (Lib.cut l c).1.length ≤ l.length ∧ (Lib.cut l c).2.1.length ≤ l.length := by
  unfold Lib.cut
  split
  · simp; omega
  · simp
theorem mk_toList (l : List UInt8) : (⟨l.toArray⟩ : ByteArray).data.toList = l := by simp
theorem scheme_no {n : List UInt8} {f : Bool} (h : ¬ (f = true ∧ n ≠ [] ∧ letterB (n.headD 0) = true ∧ n.all schB = true)) : schemeOf n f = ([], false) := if_neg h
theorem schB_letter {x : UInt8} (h : letterB x = true) : schB x = true := by simp [schB, h]
theorem all_snoc {l : List UInt8} {k : Nat} {y : UInt8} {p : UInt8 → Bool} (h : (l.take k).all p = true) (hy : l[k]? = some y) (hp : p y = true) : (l.take (k + 1)).all p = true := by
  obtain ⟨hk, he⟩ := List.getElem?_eq_some_iff.1 hy
  rw [List.take_succ_eq_append_getElem hk, List.all_append, h, he]
  simp [hp]
set_option maxRecDepth 100000 in
set_option maxHeartbeats 1600000 in
theorem scheme_any (s : ByteArray) (w : World) (hG : Good w) (hs : s.size < 4294967281) :
    Calls Tryz.prog 57 #[.string s] w fun e w' => e = .returned (.tuple #[.string ⟨(schemeF s.data.toList).1.toArray⟩, .bool (schemeF s.data.toList).2]) ∧ Below w.heap.size w w' := by
  have HC := Lib.hid (clean_any s w hs)
  have hcl := cleanF_le s.data.toList
  rw [← Lib.size_eq] at hcl
  have hcs : (⟨(cleanF s.data.toList).toArray⟩ : ByteArray).size < 4294967281 := by rw [size_mk]; omega
  have HK := Lib.hid (fun w1 (hb : Below w.heap.size w w1) => cut_any ⟨(cleanF s.data.toList).toArray⟩ 58 w1 (hG.below hb) hcs)
  have hsch : schemeF s.data.toList = schemeOf (Lib.cut (cleanF s.data.toList) [58]).1 (Lib.cut (cleanF s.data.toList) [58]).2.2 := rfl
  have hle := Nat.le_trans (cut_le (cleanF s.data.toList) [58]).1 hcl
  rw [mk_toList] at HK
  obtain ⟨f, hf⟩ : ∃ f, (Lib.cut (cleanF s.data.toList) [58]).2.2 = f := ⟨_, rfl⟩
  obtain ⟨n, hn⟩ : ∃ n, (Lib.cut (cleanF s.data.toList) [58]).1 = n := ⟨_, rfl⟩
  obtain ⟨rb, hrb⟩ : ∃ rb : ByteArray, (⟨(Lib.cut (cleanF s.data.toList) [58]).2.1.toArray⟩ : ByteArray) = rb := ⟨_, rfl⟩
  obtain ⟨c, hc⟩ : ∃ c : ByteArray, (⟨(cleanF s.data.toList).toArray⟩ : ByteArray) = c := ⟨_, rfl⟩
  rw [hsch]
  rw [hf, hn, hrb, hc] at HK
  rw [hc] at HC
  rw [hn] at hle
  rw [hf, hn]
  obtain ⟨nb, hnb⟩ : ∃ nb : ByteArray, (⟨n.toArray⟩ : ByteArray) = nb := ⟨_, rfl⟩
  rw [hnb] at HK
  obtain rfl : nb.data.toList = n := by rw [← hnb]
  rw [← Lib.size_eq] at hle
  clear hnb hn hf hrb hc hcl hcs hsch hG
  obtain ⟨R, hR⟩ : ∃ R, schemeOf nb.data.toList f = R := ⟨_, rfl⟩
  rw [hR]
  cases f with
  | false =>
    obtain rfl : ([], false) = R := by rw [← hR]; exact (scheme_no (by simp)).symm
    clear hR
    go_enter Tryz.func57, Tryz.ntmps57
    go_wp2_with fail
    refine HC.out.mono ?_
    rintro e w1 ⟨rfl, hb1⟩
    have HB1 := Lib.hid hb1
    clear hb1
    go_wp2_with fail
    refine (HK.out w1 HB1.out).mono ?_
    rintro e w2 ⟨rfl, hb2⟩
    have HB2 := Lib.hid (below_then' HB1.out hb2)
    clear hb2
    go_wp2_with fail
    go_ret2
    exact ⟨rfl, HB2.out⟩
  | true =>
    by_cases he : nb.toList = []
    · obtain rfl : ([], false) = R := by rw [← hR]; exact (scheme_no (by rw [ByteArray.toList_eq] at he; simp [he])).symm
      clear hR
      go_enter Tryz.func57, Tryz.ntmps57
      go_wp2_with fail
      refine HC.out.mono ?_
      rintro e w1 ⟨rfl, hb1⟩
      have HB1 := Lib.hid hb1
      clear hb1
      go_wp2_with fail
      refine (HK.out w1 HB1.out).mono ?_
      rintro e w2 ⟨rfl, hb2⟩
      have HB2 := Lib.hid (below_then' HB1.out hb2)
      clear hb2
      go_wp2_with fail
      go_ret2
      exact ⟨rfl, HB2.out⟩
    · have h0 : 0 < nb.size := by
        rw [Lib.size_eq]
        rw [ByteArray.toList_eq] at he
        exact List.length_pos_iff.2 he
      obtain ⟨x, hx⟩ : ∃ x : UInt8, nb[0]'h0 = x := ⟨_, rfl⟩
      have hd : nb.data.toList.headD 0 = x := by
        rw [← hx]
        have : nb.data.toList[0]? = some (nb[0]'h0) := Lib.data_getElem? nb 0 h0
        cases hq : nb.data.toList with
        | nil => rw [hq] at this; simp at this
        | cons a l => rw [hq] at this; simpa using this
      have HL := Lib.hid (fun w => isLetter_any x w)
      by_cases hl : letterB x = true
      · rw [hl] at HL
        have hR' : R = if nb.data.toList.all schB = true then (nb.data.toList.map smallB, true) else ([], false) := by
          rw [← hR]
          unfold schemeOf
          rw [hd]
          have hne : nb.data.toList ≠ [] := by rw [← ByteArray.toList_eq]; exact he
          by_cases ha : nb.data.toList.all schB = true
          · rw [if_pos ⟨rfl, hne, hl, ha⟩, if_pos ha]
          · rw [if_neg (by simp only [ha]; simp), if_neg ha]
        have HR := Lib.hid hR'
        clear hR hd hl hR'
        go_enter Tryz.func57, Tryz.ntmps57
        go_wp2_with fail
        refine HC.out.mono ?_
        rintro e w1 ⟨rfl, hb1⟩
        have HB1 := Lib.hid hb1
        clear hb1
        go_wp2_with fail
        refine (HK.out w1 HB1.out).mono ?_
        rintro e w2 ⟨rfl, hb2⟩
        have hbb := below_then' HB1.out hb2
        have hS := Lib.run_convert_string_bytes (P := Tryz.prog) w2 9 50 5 nb Tryz.underlying9 Tryz.underlying50 Tryz.underlying5
        have HN := Lib.hid (bytesAt_new w2 nb)
        have HB := Lib.hid (below_bytesWorld hbb hbb.size 5 nb)
        have hG2 : w.heap.size ≤ w2.heap.size := hbb.size
        clear hb2 hbb
        have hsz := Lib.size_eq nb
        have Hidx := Lib.hid (fun (y : UInt8) (w : World) => idx_any ⟨#[43, 45, 46]⟩ y w)
        obtain ⟨l, hln⟩ : ∃ l, nb.data.toList = l := ⟨_, rfl⟩
        rw [hln] at HN hsz HR
        have HZ := Lib.hid hsz
        clear hln hsz
        go_wp2_with (go_at_call 88; refine (HL.out _).mono ?_; rintro e w' ⟨rfl, rfl⟩)
        · rename_i h; exact absurd (List.isEmpty_iff.1 h) he
        clear hS
        have he3 : nb.toList.isEmpty = false := by
          cases hq : nb.toList.isEmpty with
          | false => rfl
          | true => exact absurd (List.isEmpty_iff.1 hq) he
        rw [he3]
        clear he3
        go_loopw [33] (fun i wr => Below w.heap.size w wr ∧ ∃ k : Nat, k ≤ nb.size ∧ i = .int .i64 (k : Int) ∧ Hid (BytesAt wr w2.heap.size (smallTo l k)) ∧ Hid ((l.take k).all schB = true)) (fun i _ => nb.size - (intOf i).toNat)
        case atStart => exact ⟨HB.out, 0, Nat.zero_le _, rfl, by rw [smallTo_zero]; exact HN, rfl⟩
        case round =>
          obtain ⟨hb, k, hk, rfl, hO, hA⟩ := hrel
          have HB3 := Lib.hid hb
          clear hb
          by_cases hlt : k < nb.size
          · obtain ⟨y, hy⟩ : ∃ y, l[k]? = some y := ⟨l[k]'(by rw [← HZ.out]; exact hlt), by simp [← HZ.out, hlt]⟩
            have hc := hO.out.cell (smallTo_at l k y hy)
            have hfz := hO.out.free (i := k) (by rw [smallTo_length, ← HZ.out]; exact hlt)
            have hy0 : y.toNat < 256 := y.toNat_lt
            have HY := Lib.hid hy
            have HLy := Lib.hid (fun w => isLetter_any y w)
            have HIy := Lib.hid (fun w => Hidx.out y w)
            clear hy
            by_cases hu : upperB y = true
            · have hst := hO.out.set k (smallB y)
              rw [smallTo_set l k y HY.out, smallB_up hu] at hst
              have HS := Lib.hid hst
              have hA2 : (l.take (k + 1)).all schB = true := all_snoc hA.out HY.out (schB_letter (by simp [letterB, hu]))
              have HA2 := Lib.hid hA2
              have hy1 := (upperB_iff hu).1
              have hy2 := (upperB_iff hu).2
              clear hst hu hA2
              go_wp2_with fail
              go_roundw
              case rel => exact ⟨HB3.out.setCell (p := ⟨w2.heap.size, k, none⟩) hG2 _, k + 1, by omega, by go_num, by first | exact HS | (have h := HS.out; rw [show ((y.toNat + 32 : Nat) : Int) = (y.toNat : Int) - 65 + 97 by omega] at h; exact h), HA2⟩
              case measure => simp [intOf]; omega
            · have hu' : upperB y = false := by simpa using hu
              have hO2 := hO
              rw [← smallTo_same l k y HY.out hu'] at hO2
              clear hO hu
              have hud : y.toNat < 65 ∨ 90 < y.toNat := by
                unfold upperB at hu'
                by_cases h65 : 65 ≤ y.toNat
                · right
                  rw [decide_eq_true h65, Bool.true_and] at hu'
                  simpa using hu'
                · left; omega
              have hrel2 : ∀ w' : World, schB y = true → (Below w.heap.size w wr ∧ Hid (BytesAt wr w2.heap.size (smallTo l (k + 1))) ∧ Hid ((l.take (k + 1)).all schB = true)) := fun _ h => ⟨HB3.out, hO2, all_snoc hA.out HY.out h⟩
              have HREL := Lib.hid (hrel2 wr)
              clear hrel2 hA
              by_cases hlt2 : letterB y = true
              · have hh := HREL.out (schB_letter hlt2)
                have H2 := Lib.hid hh.2.1
                have H3 := Lib.hid hh.2.2
                clear hh
                rw [hlt2] at HLy
                clear hu' HREL hlt2 hO2
                rcases hud with hud | hud
                all_goals
                  go_wp2_with (go_at_call 88; refine (HLy.out _).mono ?_; rintro e w' ⟨rfl, rfl⟩)
                  go_roundw
                  case rel => exact ⟨HB3.out, k + 1, by omega, by go_num, H2.out, H3.out⟩
                  case measure => simp [intOf]; omega
              · rw [Bool.not_eq_true] at hlt2
                rw [hlt2] at HLy
                by_cases hdg : 48 ≤ y.toNat ∧ y.toNat ≤ 57
                · have hh := HREL.out (by simp [schB, digitB, hdg])
                  have H2 := Lib.hid hh.2.1
                  have H3 := Lib.hid hh.2.2
                  obtain ⟨hd1, hd2⟩ := hdg
                  clear hh hu' HREL hlt2 hud hO2
                  go_wp2_with (go_at_call 88; refine (HLy.out _).mono ?_; rintro e w' ⟨rfl, rfl⟩)
                  go_roundw
                  case rel => exact ⟨HB3.out, k + 1, by omega, by go_num, H2.out, H3.out⟩
                  case measure => simp [intOf]; omega
                · have hdd : y.toNat < 48 ∨ 57 < y.toNat := by omega
                  obtain ⟨v, hv⟩ : ∃ v, Lib.indexByte [43, 45, 46] y = v := ⟨_, rfl⟩
                  have hvr := indexByte_lt [43, 45, 46] y
                  have hge := Lib.indexByte_ge [43, 45, 46] y
                  rw [hv] at hvr hge HIy
                  by_cases hm : y ∈ ([43, 45, 46] : List UInt8)
                  · have hv0 : 0 ≤ v := by
                      have := (not_congr hvr).2 (not_not_intro hm)
                      omega
                    have hh := HREL.out (by simp only [List.mem_cons, List.not_mem_nil, or_false] at hm; rcases hm with rfl | rfl | rfl <;> rfl)
                    have H2 := Lib.hid hh.2.1
                    have H3 := Lib.hid hh.2.2
                    clear hh hu' HREL hlt2 hO2 hvr hm hv hdg
                    rcases hdd with hdd | hdd
                    · clear hud
                      go_wp2_with (first | (go_at_call 88; refine (HLy.out _).mono ?_; rintro e w' ⟨rfl, rfl⟩) | (go_at_call 89; refine (HIy.out _).mono ?_; rintro e w' ⟨rfl, rfl⟩))
                      go_roundw
                      case rel => exact ⟨HB3.out, k + 1, by omega, by go_num, H2.out, H3.out⟩
                      case measure => simp [intOf]; omega
                    · rcases hud with hud | hud
                      all_goals
                        go_wp2_with (first | (go_at_call 88; refine (HLy.out _).mono ?_; rintro e w' ⟨rfl, rfl⟩) | (go_at_call 89; refine (HIy.out _).mono ?_; rintro e w' ⟨rfl, rfl⟩))
                        go_roundw
                        case rel => exact ⟨HB3.out, k + 1, by omega, by go_num, H2.out, H3.out⟩
                        case measure => simp [intOf]; omega
                  · have hv0 : v < 0 := hvr.2 hm
                    have hno : schB y = false := by
                      simp only [List.mem_cons, List.not_mem_nil, or_false, not_or] at hm
                      have hdf : digitB y = false := by
                        unfold digitB
                        rcases hdd with hdd | hdd
                        · rw [decide_eq_false (by omega)]; rfl
                        · rw [Bool.and_comm, decide_eq_false (by omega)]; rfl
                      simp [schB, hlt2, hdf, hm]
                    obtain rfl : R = ([], false) := by
                      have hR := HR.out
                      rw [if_neg (by
                        intro ha
                        have := List.all_eq_true.1 ha y (List.mem_of_getElem? HY.out)
                        rw [hno] at this
                        exact absurd this (by decide))] at hR
                      exact hR
                    clear hno hm hvr hv hdg hlt2 HREL hO2 hu' HR
                    rcases hdd with hdd | hdd
                    · clear hud
                      go_wp2_with (first | (go_at_call 88; refine (HLy.out _).mono ?_; rintro e w' ⟨rfl, rfl⟩) | (go_at_call 89; refine (HIy.out _).mono ?_; rintro e w' ⟨rfl, rfl⟩))
                      go_ret2
                      exact ⟨rfl, HB3.out⟩
                    · rcases hud with hud | hud
                      all_goals
                        go_wp2_with (first | (go_at_call 88; refine (HLy.out _).mono ?_; rintro e w' ⟨rfl, rfl⟩) | (go_at_call 89; refine (HIy.out _).mono ?_; rintro e w' ⟨rfl, rfl⟩))
                        go_ret2
                        exact ⟨rfl, HB3.out⟩
          · have hkl : k = l.length := by rw [← HZ.out]; omega
            have hhs := hO.out.string nb.size (grownCap w2 nb.size 0 5) (by rw [smallTo_length, ← HZ.out])
            subst hkl
            have hall := hA.out
            rw [List.take_length] at hall
            have hR := HR.out
            rw [if_pos hall] at hR
            rw [smallTo_all] at hhs
            subst hR
            clear hall hA HR
            go_wp2_with fail
            go_ret2
            exact ⟨rfl, HB3.out⟩
      · obtain rfl : ([], false) = R := by rw [← hR]; exact (scheme_no (by rw [hd]; simp [hl])).symm
        rw [Bool.not_eq_true] at hl
        rw [hl] at HL
        clear hR hd hl
        go_enter Tryz.func57, Tryz.ntmps57
        go_wp2_with fail
        refine HC.out.mono ?_
        rintro e w1 ⟨rfl, hb1⟩
        have HB1 := Lib.hid hb1
        clear hb1
        go_wp2_with fail
        refine (HK.out w1 HB1.out).mono ?_
        rintro e w2 ⟨rfl, hb2⟩
        have HB2 := Lib.hid (below_then' HB1.out hb2)
        clear hb2
        go_wp2_with (go_at_call 88; refine (HL.out _).mono ?_; rintro e w' ⟨rfl, rfl⟩)
        go_ret2
        exact ⟨rfl, HB2.out⟩
end Go.Proofs.YtchooidhieaphaaGreatDoor
set_option linter.unusedVariables false
set_option linter.unusedSimpArgs false
namespace Go.Proofs.YtchooidhieaphaaGreatDoor
open Go.RowKit Go.Proofs.YtchooidhieaphaaGreatDoorW.PrintWords
/-- Whether a host stands behind a scheme's colon. -/
def hostG : List UInt8 → Bool
  | 47 :: 47 :: x :: _ => decide (Lib.indexByte [47, 63, 35, 92] x < 0)
  | _ => false
def hostedF (l : List UInt8) : Bool := hostG (Lib.cut l [58]).2.1
theorem pre_any (s p : ByteArray) (w : World) :
    Calls Tryz.prog 90 #[.string s, .string p] w fun e w' => e = .returned (.tuple #[.string ⟨(Lib.trimPrefix s.data.toList p.data.toList).toArray⟩, .bool (Lib.hasPrefix s.data.toList p.data.toList)]) ∧ w = w' :=
  (Tryz.strings_CutPrefix s p w).mono fun _ _ h => ⟨h.1, h.2.symm⟩
set_option maxRecDepth 100000 in
set_option maxHeartbeats 1600000 in
theorem hosted_any (s : ByteArray) (w : World) (hG : Good w) (hs : s.size < 4294967281) :
    Calls Tryz.prog 58 #[.string s] w fun e w' => e = .returned (.bool (hostedF s.data.toList)) ∧ Below w.heap.size w w' := by
  have HK := Lib.hid (cut_any s 58 w hG hs)
  have hsch : hostedF s.data.toList = hostG (Lib.cut s.data.toList [58]).2.1 := rfl
  rw [hsch]
  obtain ⟨f, hf⟩ : ∃ f, (Lib.cut s.data.toList [58]).2.2 = f := ⟨_, rfl⟩
  obtain ⟨ab, hab⟩ : ∃ ab : ByteArray, (⟨(Lib.cut s.data.toList [58]).1.toArray⟩ : ByteArray) = ab := ⟨_, rfl⟩
  have hle := (cut_le s.data.toList [58]).2
  rw [← Lib.size_eq] at hle
  obtain ⟨r, hr⟩ : ∃ r, (Lib.cut s.data.toList [58]).2.1 = r := ⟨_, rfl⟩
  rw [hf, hab, hr] at HK
  rw [hr] at hle ⊢
  obtain ⟨rb, hrb⟩ : ∃ rb : ByteArray, (⟨r.toArray⟩ : ByteArray) = rb := ⟨_, rfl⟩
  rw [hrb] at HK
  obtain rfl : rb.data.toList = r := by rw [← hrb]
  clear hrb hr hf hab hsch
  have HP := Lib.hid (fun w1 => pre_any rb ⟨#[47, 47]⟩ w1)
  have HI := Lib.hid (fun (y : UInt8) (w : World) => idx_any ⟨#[47, 63, 35, 92]⟩ y w)
  obtain ⟨hp, hhp⟩ : ∃ hp, Lib.hasPrefix rb.data.toList (⟨#[47, 47]⟩ : ByteArray).data.toList = hp := ⟨_, rfl⟩
  obtain ⟨tb, htb⟩ : ∃ tb : ByteArray, (⟨(Lib.trimPrefix rb.data.toList (⟨#[47, 47]⟩ : ByteArray).data.toList).toArray⟩ : ByteArray) = tb := ⟨_, rfl⟩
  rw [hhp, htb] at HP
  have htl : tb.data.toList = Lib.trimPrefix rb.data.toList [47, 47] := by rw [← htb]
  clear htb
  cases hp with
  | false =>
    obtain ⟨R, hR⟩ : ∃ R, hostG rb.data.toList = R := ⟨_, rfl⟩
    rw [hR]
    obtain rfl : false = R := by
      rw [← hR]
      unfold hostG
      split
      · rename_i heq; rw [heq] at hhp; exact absurd hhp (by simp [Lib.hasPrefix])
      · rfl
    clear hR htl hhp
    go_enter Tryz.func58, Tryz.ntmps58
    go_wp2_with fail
    refine HK.out.mono ?_
    rintro e w1 ⟨rfl, hb1⟩
    have HB1 := Lib.hid hb1
    clear hb1
    go_wp2_with fail
    refine (HP.out w1).mono ?_
    rintro e w2 ⟨rfl, rfl⟩
    go_wp2_with fail
    go_ret
    exact ⟨rfl, HB1.out⟩
  | true =>
    by_cases he : tb.data.toList = []
    · obtain ⟨R, hR⟩ : ∃ R, hostG rb.data.toList = R := ⟨_, rfl⟩
      rw [hR]
      obtain rfl : false = R := by
        rw [← hR]
        unfold hostG
        split
        · rename_i heq; rw [htl, heq] at he; exact absurd he (by simp [Lib.trimPrefix, Lib.hasPrefix])
        · rfl
      clear hR htl hhp
      have he' : tb.toList = [] := by rw [ByteArray.toList_eq]; exact he
      go_enter Tryz.func58, Tryz.ntmps58
      go_wp2_with fail
      refine HK.out.mono ?_
      rintro e w1 ⟨rfl, hb1⟩
      have HB1 := Lib.hid hb1
      clear hb1
      go_wp2_with fail
      refine (HP.out w1).mono ?_
      rintro e w2 ⟨rfl, rfl⟩
      go_wp2_with fail
      go_ret
      exact ⟨rfl, HB1.out⟩
    · have h0 : 0 < tb.size := by
        rw [Lib.size_eq]
        exact List.length_pos_iff.2 he
      obtain ⟨x, hx⟩ : ∃ x : UInt8, tb[0]'h0 = x := ⟨_, rfl⟩
      obtain ⟨v, hv⟩ : ∃ v, Lib.indexByte [47, 63, 35, 92] x = v := ⟨_, rfl⟩
      have hR : hostG rb.data.toList = decide (v < 0) := by
        have : tb.data.toList[0]? = some (tb[0]'h0) := Lib.data_getElem? tb 0 h0
        rw [hx] at this
        obtain ⟨l, hl⟩ : ∃ l, tb.data.toList = x :: l := by
          cases hq : tb.data.toList with
          | nil => exact absurd hq he
          | cons a l => rw [hq] at this; simp at this; exact ⟨l, by rw [this]⟩
        have h2 : rb.data.toList = 47 :: 47 :: x :: l := by
          rw [hl] at htl
          have hp2 : Lib.hasPrefix rb.data.toList [47, 47] = true := hhp
          cases hq : rb.data.toList with
          | nil => rw [hq] at hp2; simp [Lib.hasPrefix] at hp2
          | cons a r1 =>
            cases r1 with
            | nil => rw [hq] at hp2; simp [Lib.hasPrefix] at hp2
            | cons b r2 =>
              rw [hq] at hp2 htl
              simp [Lib.hasPrefix] at hp2
              rw [← hp2.1, ← hp2.2] at htl ⊢
              simp [Lib.trimPrefix, Lib.hasPrefix] at htl
              rw [htl]
        rw [h2]
        show decide (Lib.indexByte [47, 63, 35, 92] x < 0) = _
        rw [hv]
      rw [hR]
      have HE : Hid (tb.toList.isEmpty = false) := by
        rw [ByteArray.toList_eq]
        cases hq : tb.data.toList with
        | nil => exact absurd hq he
        | cons a l => exact rfl
      have HI2 := Lib.hid (fun w => HI.out x w)
      have he' : (tb.toList = []) = False := by rw [ByteArray.toList_eq]; exact eq_false he
      have he2 : ¬ tb.toList = [] := by rw [he']; exact fun h => h
      clear hR htl hhp HI he he'
      have hvv : Lib.indexByte (⟨#[47, 63, 35, 92]⟩ : ByteArray).data.toList x = v := hv
      rw [hvv] at HI2
      clear hv hvv
      go_enter Tryz.func58, Tryz.ntmps58
      go_wp2_with fail
      refine HK.out.mono ?_
      rintro e w1 ⟨rfl, hb1⟩
      have HB1 := Lib.hid hb1
      clear hb1
      go_wp2_with fail
      refine (HP.out w1).mono ?_
      rintro e w2 ⟨rfl, rfl⟩
      go_wp2_with (go_at_call 89; refine (HI2.out _).mono ?_; rintro e w' ⟨rfl, rfl⟩)
      all_goals
        go_ret
        refine ⟨ret_bool ?_, HB1.out⟩
        rw [HE.out]
        first | rfl | exact Bool.true_and _ 
/-- What link.Kind tells: 0 near, 1 web, 2 safe, 3 mail, 4 inside, 5 other. -/
def kindG (n : List UInt8) (f h : Bool) : Int :=
  if f = false then 0
  else if n = [104, 116, 116, 112] ∧ h = true then 1
  else if n = [104, 116, 116, 112, 115] ∧ h = true then 2
  else if n = [109, 97, 105, 108, 116, 111] then 3
  else if n = [99, 105, 100] then 4
  else 5
def kindF (l : List UInt8) : Int := kindG (schemeF l).1 (schemeF l).2 (hostedF (cleanF l))
set_option maxRecDepth 100000 in
set_option maxHeartbeats 1600000 in
theorem kind_any (s : ByteArray) (w : World) (hG : Good w) (hs : s.size < 4294967281) :
    Calls Tryz.prog 38 #[.string s] w fun e w' => e = .returned (.int .i64 (kindF s.data.toList)) ∧ Below w.heap.size w w' := by
  have HS := Lib.hid (scheme_any s w hG hs)
  have HC := Lib.hid (fun w1 => clean_any s w1 hs)
  have hcl := cleanF_le s.data.toList
  rw [← Lib.size_eq] at hcl
  have HH := Lib.hid (fun w1 (hb : Below w.heap.size w w1) => hosted_any ⟨(cleanF s.data.toList).toArray⟩ w1 (hG.below hb) (by rw [size_mk]; omega))
  have hk : kindF s.data.toList = kindG (schemeF s.data.toList).1 (schemeF s.data.toList).2 (hostedF (cleanF s.data.toList)) := rfl
  rw [hk]
  clear hk
  rw [mk_toList] at HH
  obtain ⟨h, hh⟩ : ∃ h, hostedF (cleanF s.data.toList) = h := ⟨_, rfl⟩
  obtain ⟨c, hc⟩ : ∃ c : ByteArray, (⟨(cleanF s.data.toList).toArray⟩ : ByteArray) = c := ⟨_, rfl⟩
  obtain ⟨n, hn⟩ : ∃ n, (schemeF s.data.toList).1 = n := ⟨_, rfl⟩
  obtain ⟨f, hf⟩ : ∃ f, (schemeF s.data.toList).2 = f := ⟨_, rfl⟩
  rw [hh, hc] at HH
  rw [hc] at HC
  rw [hn, hf] at HS
  rw [hh, hn, hf]
  obtain ⟨nb, hnb⟩ : ∃ nb : ByteArray, (⟨n.toArray⟩ : ByteArray) = nb := ⟨_, rfl⟩
  rw [hnb] at HS
  obtain rfl : nb.data.toList = n := by rw [← hnb]
  clear hnb hn hf hh hc hcl
  obtain ⟨R, hR⟩ : ∃ R, kindG nb.data.toList f h = R := ⟨_, rfl⟩
  rw [hR]
  unfold kindG at hR
  cases f with
  | false =>
    rw [if_pos rfl] at hR
    subst hR
    go_enter Tryz.func38, Tryz.ntmps38
    go_wp2_with fail
    refine HS.out.mono ?_
    rintro e w1 ⟨rfl, hb1⟩
    have HB1 := Lib.hid hb1
    clear hb1
    go_wp2_with fail
    go_ret
    exact ⟨rfl, HB1.out⟩
  | true =>
    rw [if_neg (by decide)] at hR
    by_cases h0 : nb.data.toList = [104, 116, 116, 112]
    · have e0 := beq_yes h0
      have e1 : (nb.toList == [104, 116, 116, 112, 115]) = false := by rw [ByteArray.toList_eq, h0]; rfl
      have e2 : (nb.toList == [109, 97, 105, 108, 116, 111]) = false := by rw [ByteArray.toList_eq, h0]; rfl
      have e3 : (nb.toList == [99, 105, 100]) = false := by rw [ByteArray.toList_eq, h0]; rfl
      rw [h0] at hR
      clear h0
      cases h with
      | true =>
        simp at hR
        subst hR
        go_enter Tryz.func38, Tryz.ntmps38
        go_wp2_with fail
        refine HS.out.mono ?_
        rintro e w1 ⟨rfl, hb1⟩
        have HB1 := Lib.hid hb1
        clear hb1
        go_wp2_with fail
        refine (HC.out w1).mono ?_
        rintro e w2 ⟨rfl, hb2⟩
        have HB2 := Lib.hid (below_then' HB1.out hb2)
        clear hb2
        go_wp2_with fail
        refine (HH.out w2 HB2.out).mono ?_
        rintro e w3 ⟨rfl, hb3⟩
        have HB3 := Lib.hid (below_then' HB2.out hb3)
        clear hb3
        go_wp2_with fail
        go_ret
        exact ⟨rfl, HB3.out⟩
      | false =>
        simp at hR
        subst hR
        go_enter Tryz.func38, Tryz.ntmps38
        go_wp2_with fail
        refine HS.out.mono ?_
        rintro e w1 ⟨rfl, hb1⟩
        have HB1 := Lib.hid hb1
        clear hb1
        go_wp2_with fail
        refine (HC.out w1).mono ?_
        rintro e w2 ⟨rfl, hb2⟩
        have HB2 := Lib.hid (below_then' HB1.out hb2)
        clear hb2
        go_wp2_with fail
        refine (HH.out w2 HB2.out).mono ?_
        rintro e w3 ⟨rfl, hb3⟩
        have HB3 := Lib.hid (below_then' HB2.out hb3)
        clear hb3
        go_wp2_with fail
        go_ret
        exact ⟨rfl, HB3.out⟩
    · skip
      by_cases h1 : nb.data.toList = [104, 116, 116, 112, 115]
      · have e0 : (nb.toList == [104, 116, 116, 112]) = false := by rw [ByteArray.toList_eq, h1]; rfl
        have e1 := beq_yes h1
        have e2 : (nb.toList == [109, 97, 105, 108, 116, 111]) = false := by rw [ByteArray.toList_eq, h1]; rfl
        have e3 : (nb.toList == [99, 105, 100]) = false := by rw [ByteArray.toList_eq, h1]; rfl
        rw [h1] at hR
        clear h1 h0
        cases h with
        | true =>
          simp at hR
          subst hR
          go_enter Tryz.func38, Tryz.ntmps38
          go_wp2_with fail
          refine HS.out.mono ?_
          rintro e w1 ⟨rfl, hb1⟩
          have HB1 := Lib.hid hb1
          clear hb1
          go_wp2_with fail
          refine (HC.out w1).mono ?_
          rintro e w2 ⟨rfl, hb2⟩
          have HB2 := Lib.hid (below_then' HB1.out hb2)
          clear hb2
          go_wp2_with fail
          refine (HH.out w2 HB2.out).mono ?_
          rintro e w3 ⟨rfl, hb3⟩
          have HB3 := Lib.hid (below_then' HB2.out hb3)
          clear hb3
          go_wp2_with fail
          go_ret
          exact ⟨rfl, HB3.out⟩
        | false =>
          simp at hR
          subst hR
          go_enter Tryz.func38, Tryz.ntmps38
          go_wp2_with fail
          refine HS.out.mono ?_
          rintro e w1 ⟨rfl, hb1⟩
          have HB1 := Lib.hid hb1
          clear hb1
          go_wp2_with fail
          refine (HC.out w1).mono ?_
          rintro e w2 ⟨rfl, hb2⟩
          have HB2 := Lib.hid (below_then' HB1.out hb2)
          clear hb2
          go_wp2_with fail
          refine (HH.out w2 HB2.out).mono ?_
          rintro e w3 ⟨rfl, hb3⟩
          have HB3 := Lib.hid (below_then' HB2.out hb3)
          clear hb3
          go_wp2_with fail
          go_ret
          exact ⟨rfl, HB3.out⟩
      · skip
        by_cases h2 : nb.data.toList = [109, 97, 105, 108, 116, 111]
        · have e0 : (nb.toList == [104, 116, 116, 112]) = false := by rw [ByteArray.toList_eq, h2]; rfl
          have e1 : (nb.toList == [104, 116, 116, 112, 115]) = false := by rw [ByteArray.toList_eq, h2]; rfl
          have e2 := beq_yes h2
          have e3 : (nb.toList == [99, 105, 100]) = false := by rw [ByteArray.toList_eq, h2]; rfl
          rw [h2] at hR
          clear h2 h0 h1
          simp at hR
          subst hR
          go_enter Tryz.func38, Tryz.ntmps38
          go_wp2_with fail
          refine HS.out.mono ?_
          rintro e w1 ⟨rfl, hb1⟩
          have HB1 := Lib.hid hb1
          clear hb1
          go_wp2_with fail
          go_ret
          exact ⟨rfl, HB1.out⟩
        · skip
          by_cases h3 : nb.data.toList = [99, 105, 100]
          · have e0 : (nb.toList == [104, 116, 116, 112]) = false := by rw [ByteArray.toList_eq, h3]; rfl
            have e1 : (nb.toList == [104, 116, 116, 112, 115]) = false := by rw [ByteArray.toList_eq, h3]; rfl
            have e2 : (nb.toList == [109, 97, 105, 108, 116, 111]) = false := by rw [ByteArray.toList_eq, h3]; rfl
            have e3 := beq_yes h3
            rw [h3] at hR
            clear h3 h0 h1 h2
            simp at hR
            subst hR
            go_enter Tryz.func38, Tryz.ntmps38
            go_wp2_with fail
            refine HS.out.mono ?_
            rintro e w1 ⟨rfl, hb1⟩
            have HB1 := Lib.hid hb1
            clear hb1
            go_wp2_with fail
            go_ret
            exact ⟨rfl, HB1.out⟩
          · skip
            have e0 := beq_no h0
            have e1 := beq_no h1
            have e2 := beq_no h2
            have e3 := beq_no h3
            simp only [h0, h1, h2, h3, false_and, if_false] at hR
            subst hR
            clear h0 h1 h2 h3
            go_enter Tryz.func38, Tryz.ntmps38
            go_wp2_with fail
            refine HS.out.mono ?_
            rintro e w1 ⟨rfl, hb1⟩
            have HB1 := Lib.hid hb1
            clear hb1
            go_wp2_with fail
            go_ret
            exact ⟨rfl, HB1.out⟩
end Go.Proofs.YtchooidhieaphaaGreatDoor
set_option linter.unusedVariables false
set_option linter.unusedSimpArgs false
namespace Go.Proofs.YtchooidhieaphaaGreatDoor
open Go.RowKit Go.Proofs.YtchooidhieaphaaGreatDoorW.PrintWords
/-- What rules.Blocked tells, by the kind and the cleaned address. -/
def blockG (b : Bool) (e n c : List UInt8) (k : Int) : Bool :=
  if e = [105, 109, 103] ∧ n = [115, 114, 99] then
    if k = 0 then (if c = [] then false else !(Lib.hasPrefix c [97, 116, 116, 58]))
    else if k = 1 then true
    else if k = 2 then !b
    else false
  else false
def blockF (b : Bool) (e n v : List UInt8) : Bool := blockG b e n (cleanF v) (kindF v)
theorem alloc_size (w : World) (o : Obj) : (w.alloc o).heap.size = w.heap.size + 1 := by simp
theorem two_below (w : World) (o1 o2 : Obj) : Below w.heap.size w ((w.alloc o1).alloc o2) :=
  ((Below.refl _ _).alloc (Nat.le_refl _) o1).alloc (by rw [alloc_size]; omega) o2
theorem alloc_cell (w : World) (cs : Array Value) (t : TypeId) (i : Nat) (v : Value) (h : cs[i]? = some v) : (w.alloc (.cells cs t)).cell? ⟨w.heap.size, i, none⟩ = some v := by
  have hn := heap_alloc_new w (.cells cs t)
  unfold World.cell?
  rw [hn]
  exact h
theorem hasP_any (s p : ByteArray) (w : World) : Calls Tryz.prog 39 #[.string s, .string p] w fun e w' => e = .returned (.bool (Lib.hasPrefix s.data.toList p.data.toList)) ∧ w = w' :=
  (Tryz.strings_HasPrefix s p w).mono fun _ _ h => ⟨h.1, h.2.symm⟩
theorem kindF_cases (l : List UInt8) : kindF l = 0 ∨ kindF l = 1 ∨ kindF l = 2 ∨ kindF l = 3 ∨ kindF l = 4 ∨ kindF l = 5 := by
  unfold kindF kindG
  repeat' split
  all_goals simp
set_option maxRecDepth 100000 in
set_option maxHeartbeats 1600000 in
theorem blocked_any (b1 b2 b3 : Bool) (e n v : ByteArray) (w : World) (hG : Good w) (hv : v.size < 4294967281) :
    Calls Tryz.prog 16 #[.agg #[.bool b1, .bool b2, .bool b3], .string e, .agg #[.string n, .string v]] w fun en w' => en = .returned (.bool (blockF b1 e.data.toList n.data.toList v.data.toList)) ∧ Below w.heap.size w w' := by
  obtain ⟨W0, hW0⟩ : ∃ W0, (w.alloc (Obj.cells #[Value.bool b1, Value.bool b2, Value.bool b3] 26)).alloc (Obj.cells #[Value.string n, Value.string v] 29) = W0 := ⟨_, rfl⟩
  have hB0 : Below w.heap.size w W0 := hW0 ▸ two_below _ _ _
  have h26 : (w.alloc (Obj.cells #[Value.bool b1, Value.bool b2, Value.bool b3] 26)).cell? ⟨w.heap.size, 0, none⟩ = some (.bool b1) := alloc_cell _ _ _ _ _ rfl
  have hc1 : W0.cell? ⟨w.heap.size, 0, none⟩ = some (.bool b1) := by
    rw [← hW0]
    exact cell_later ((Below.refl _ _).alloc (Nat.le_refl _) _) h26
  have hc2 : W0.cell? ⟨w.heap.size + 1, 1, none⟩ = some (.string v) := by
    rw [← hW0]
    have := alloc_cell (w.alloc (Obj.cells #[Value.bool b1, Value.bool b2, Value.bool b3] 26)) #[Value.string n, Value.string v] 29 1 (.string v) rfl
    rwa [alloc_size] at this
  have HG0 := Lib.hid (hG.below hB0)
  have HW0 := Lib.hid hW0
  have HB0 := Lib.hid hB0
  have HC1 := Lib.hid hc1
  have HC2 := Lib.hid hc2
  have HCl := Lib.hid (fun w1 => clean_any v w1 hv)
  have HKi := Lib.hid (fun w1 (h : Good w1) => kind_any v w1 h hv)
  have hF : blockF b1 e.data.toList n.data.toList v.data.toList = blockG b1 e.data.toList n.data.toList (cleanF v.data.toList) (kindF v.data.toList) := rfl
  have hk := kindF_cases v.data.toList
  obtain ⟨k, hkk⟩ : ∃ k, kindF v.data.toList = k := ⟨_, rfl⟩
  obtain ⟨c, hc⟩ : ∃ c : ByteArray, (⟨(cleanF v.data.toList).toArray⟩ : ByteArray) = c := ⟨_, rfl⟩
  have hcl : cleanF v.data.toList = c.data.toList := by rw [← hc]
  rw [hcl, hkk] at hF
  rw [hkk] at HKi hk
  rw [hc] at HCl
  rw [hF]
  clear hF hcl hc hkk hc1 hc2 h26 hB0 hW0
  obtain ⟨R, hR⟩ : ∃ R, blockG b1 e.data.toList n.data.toList c.data.toList k = R := ⟨_, rfl⟩
  rw [hR]
  unfold blockG at hR
  by_cases he : e.data.toList = [105, 109, 103]
  · by_cases hn : n.data.toList = [115, 114, 99]
    · rw [if_pos ⟨he, hn⟩] at hR
      have e1 := beq_yes he
      have e2 := beq_yes hn
      clear he hn
      go_enter Tryz.func16, Tryz.ntmps16
      go_wp2_with fail
      rw [HW0.out]
      refine (HCl.out W0).mono ?_
      rintro en w1 ⟨rfl, hb1⟩
      have hc1 := cell_later hb1 HC1.out
      have hc2 := cell_later hb1 HC2.out
      have HB1 := Lib.hid (below_then' HB0.out hb1)
      have HG1 := Lib.hid (HG0.out.below hb1)
      clear hb1 HW0 HB0 HC1 HC2 HG0
      go_wp2_with fail
      refine (HKi.out w1 HG1.out).mono ?_
      rintro en w2 ⟨rfl, hb2⟩
      have hc3 := cell_later hb2 hc1
      have HB2 := Lib.hid (below_then' HB1.out hb2)
      clear hb2 hc1 hc2 HB1 HG1
      have HH := Lib.hid (fun w => hasP_any c ⟨#[97, 116, 116, 58]⟩ w)
      rcases hk with rfl | rfl | rfl | rfl | rfl | rfl
      · rw [if_pos rfl] at hR
        by_cases hc0 : c.data.toList = []
        · rw [if_pos hc0] at hR
          subst hR
          have hc0' : c.toList = [] := by rw [ByteArray.toList_eq]; exact hc0
          clear hc0
          go_wp2_with fail
          go_ret
          exact ⟨rfl, HB2.out⟩
        · rw [if_neg hc0] at hR
          have hc0' : ¬ c.toList = [] := by rw [ByteArray.toList_eq]; exact hc0
          clear hc0
          go_wp2_with (go_at_call 39; refine (HH.out _).mono ?_; rintro e w' ⟨rfl, rfl⟩)
          all_goals
            go_ret
            refine ⟨ret_bool ?_, HB2.out⟩
            first | exact hR | (rw [← hR]; simp [hc0']) | skip
      all_goals
        simp at hR
        subst hR
        clear HH
        go_wp2_with fail
        go_ret
        exact ⟨rfl, HB2.out⟩
    · rw [if_neg (fun h => hn h.2)] at hR
      subst hR
      have e1 := beq_yes he
      have e2 := beq_no hn
      clear he hn hk
      go_enter Tryz.func16, Tryz.ntmps16
      go_wp2_with fail
      go_ret
      exact ⟨rfl, HW0.out ▸ HB0.out⟩
  · rw [if_neg (fun h => he h.1)] at hR
    subst hR
    have e1 := beq_no he
    clear he hk
    go_enter Tryz.func16, Tryz.ntmps16
    go_wp2_with fail
    go_ret
    exact ⟨rfl, HW0.out ▸ HB0.out⟩
end Go.Proofs.YtchooidhieaphaaGreatDoor
