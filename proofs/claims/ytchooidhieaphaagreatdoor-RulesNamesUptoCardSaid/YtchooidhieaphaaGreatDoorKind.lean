/- link.Kind returns what kindF says. Condition: a text below 2^32 - 15 bytes. -/
import Derived.Test.YtchooidhieaphaaGreatDoorLink
import Derived.Test.YtchooidhieaphaaGreatDoorAttr
set_option linter.unusedVariables false
set_option linter.unusedSimpArgs false
namespace Go.Proofs.YtchooidhieaphaaGreatDoor
open Go.RowKit Go.Proofs.YtchooidhieaphaaGreatDoorW.PrintWords

/-- Whether a host stands behind a scheme's colon. -/
def hostG : List UInt8 → Bool
  | 47 :: 47 :: x :: _ => decide (Lib.indexByte [47, 63, 35, 92] x < 0)
  | _ => false
def hostedF (l : List UInt8) : Bool := hostG (Lib.cut l [58]).2.1
theorem pre_any (s p : ByteArray) (w : World) :
    Calls Tryz.prog 90 #[.string s, .string p] w fun e w' => e = .returned (.tuple #[.string ⟨(Lib.trimPrefix s.data.toList p.data.toList).toArray⟩, .bool (Lib.hasPrefix s.data.toList p.data.toList)]) ∧ w = w' :=
  (Tryz.strings_CutPrefix s p w).mono fun _ _ h => ⟨h.1, h.2.symm⟩

set_option maxRecDepth 100000 in
set_option maxHeartbeats 1600000 in
theorem hosted_any (s : ByteArray) (w : World) (hG : Good w) (hs : s.size < 4294967281) :
    Calls Tryz.prog 58 #[.string s] w fun e w' => e = .returned (.bool (hostedF s.data.toList)) ∧ Below w.heap.size w w' := by
  have HK := Lib.hid (cut_any s 58 w hG hs)
  have hsch : hostedF s.data.toList = hostG (Lib.cut s.data.toList [58]).2.1 := rfl
  rw [hsch]
  obtain ⟨f, hf⟩ : ∃ f, (Lib.cut s.data.toList [58]).2.2 = f := ⟨_, rfl⟩
  obtain ⟨ab, hab⟩ : ∃ ab : ByteArray, (⟨(Lib.cut s.data.toList [58]).1.toArray⟩ : ByteArray) = ab := ⟨_, rfl⟩
  have hle := (cut_le s.data.toList [58]).2
  rw [← Lib.size_eq] at hle
  obtain ⟨r, hr⟩ : ∃ r, (Lib.cut s.data.toList [58]).2.1 = r := ⟨_, rfl⟩
  rw [hf, hab, hr] at HK
  rw [hr] at hle ⊢
  obtain ⟨rb, hrb⟩ : ∃ rb : ByteArray, (⟨r.toArray⟩ : ByteArray) = rb := ⟨_, rfl⟩
  rw [hrb] at HK
  obtain rfl : rb.data.toList = r := by rw [← hrb]
  clear hrb hr hf hab hsch
  have HP := Lib.hid (fun w1 => pre_any rb ⟨#[47, 47]⟩ w1)
  have HI := Lib.hid (fun (y : UInt8) (w : World) => idx_any ⟨#[47, 63, 35, 92]⟩ y w)
  obtain ⟨hp, hhp⟩ : ∃ hp, Lib.hasPrefix rb.data.toList (⟨#[47, 47]⟩ : ByteArray).data.toList = hp := ⟨_, rfl⟩
  obtain ⟨tb, htb⟩ : ∃ tb : ByteArray, (⟨(Lib.trimPrefix rb.data.toList (⟨#[47, 47]⟩ : ByteArray).data.toList).toArray⟩ : ByteArray) = tb := ⟨_, rfl⟩
  rw [hhp, htb] at HP
  have htl : tb.data.toList = Lib.trimPrefix rb.data.toList [47, 47] := by rw [← htb]
  clear htb
  cases hp with
  | false =>
    obtain ⟨R, hR⟩ : ∃ R, hostG rb.data.toList = R := ⟨_, rfl⟩
    rw [hR]
    obtain rfl : false = R := by
      rw [← hR]
      unfold hostG
      split
      · rename_i heq; rw [heq] at hhp; exact absurd hhp (by simp [Lib.hasPrefix])
      · rfl
    clear hR htl hhp
    go_enter Tryz.func58, Tryz.ntmps58
    go_wp2_with fail
    refine HK.out.mono ?_
    rintro e w1 ⟨rfl, hb1⟩
    have HB1 := Lib.hid hb1
    clear hb1
    go_wp2_with fail
    refine (HP.out w1).mono ?_
    rintro e w2 ⟨rfl, rfl⟩
    go_wp2_with fail
    go_ret
    exact ⟨rfl, HB1.out⟩
  | true =>
    by_cases he : tb.data.toList = []
    · obtain ⟨R, hR⟩ : ∃ R, hostG rb.data.toList = R := ⟨_, rfl⟩
      rw [hR]
      obtain rfl : false = R := by
        rw [← hR]
        unfold hostG
        split
        · rename_i heq; rw [htl, heq] at he; exact absurd he (by simp [Lib.trimPrefix, Lib.hasPrefix])
        · rfl
      clear hR htl hhp
      have he' : tb.toList = [] := by rw [ByteArray.toList_eq]; exact he
      go_enter Tryz.func58, Tryz.ntmps58
      go_wp2_with fail
      refine HK.out.mono ?_
      rintro e w1 ⟨rfl, hb1⟩
      have HB1 := Lib.hid hb1
      clear hb1
      go_wp2_with fail
      refine (HP.out w1).mono ?_
      rintro e w2 ⟨rfl, rfl⟩
      go_wp2_with fail
      go_ret
      exact ⟨rfl, HB1.out⟩
    · have h0 : 0 < tb.size := by
        rw [Lib.size_eq]
        exact List.length_pos_iff.2 he
      obtain ⟨x, hx⟩ : ∃ x : UInt8, tb[0]'h0 = x := ⟨_, rfl⟩
      obtain ⟨v, hv⟩ : ∃ v, Lib.indexByte [47, 63, 35, 92] x = v := ⟨_, rfl⟩
      have hR : hostG rb.data.toList = decide (v < 0) := by
        have : tb.data.toList[0]? = some (tb[0]'h0) := Lib.data_getElem? tb 0 h0
        rw [hx] at this
        obtain ⟨l, hl⟩ : ∃ l, tb.data.toList = x :: l := by
          cases hq : tb.data.toList with
          | nil => exact absurd hq he
          | cons a l => rw [hq] at this; simp at this; exact ⟨l, by rw [this]⟩
        have h2 : rb.data.toList = 47 :: 47 :: x :: l := by
          rw [hl] at htl
          have hp2 : Lib.hasPrefix rb.data.toList [47, 47] = true := hhp
          cases hq : rb.data.toList with
          | nil => rw [hq] at hp2; simp [Lib.hasPrefix] at hp2
          | cons a r1 =>
            cases r1 with
            | nil => rw [hq] at hp2; simp [Lib.hasPrefix] at hp2
            | cons b r2 =>
              rw [hq] at hp2 htl
              simp [Lib.hasPrefix] at hp2
              rw [← hp2.1, ← hp2.2] at htl ⊢
              simp [Lib.trimPrefix, Lib.hasPrefix] at htl
              rw [htl]
        rw [h2]
        show decide (Lib.indexByte [47, 63, 35, 92] x < 0) = _
        rw [hv]
      rw [hR]
      have HE : Hid (tb.toList.isEmpty = false) := by
        rw [ByteArray.toList_eq]
        cases hq : tb.data.toList with
        | nil => exact absurd hq he
        | cons a l => exact rfl
      have HI2 := Lib.hid (fun w => HI.out x w)
      have he' : (tb.toList = []) = False := by rw [ByteArray.toList_eq]; exact eq_false he
      have he2 : ¬ tb.toList = [] := by rw [he']; exact fun h => h
      clear hR htl hhp HI he he'
      have hvv : Lib.indexByte (⟨#[47, 63, 35, 92]⟩ : ByteArray).data.toList x = v := hv
      rw [hvv] at HI2
      clear hv hvv
      go_enter Tryz.func58, Tryz.ntmps58
      go_wp2_with fail
      refine HK.out.mono ?_
      rintro e w1 ⟨rfl, hb1⟩
      have HB1 := Lib.hid hb1
      clear hb1
      go_wp2_with fail
      refine (HP.out w1).mono ?_
      rintro e w2 ⟨rfl, rfl⟩
      go_wp2_with (go_at_call 89; refine (HI2.out _).mono ?_; rintro e w' ⟨rfl, rfl⟩)
      all_goals
        go_ret
        refine ⟨ret_bool ?_, HB1.out⟩
        rw [HE.out]
        first | rfl | exact Bool.true_and _ 

/-- What link.Kind tells: 0 near, 1 web, 2 safe, 3 mail, 4 inside, 5 other. -/
def kindG (n : List UInt8) (f h : Bool) : Int :=
  if f = false then 0
  else if n = [104, 116, 116, 112] ∧ h = true then 1
  else if n = [104, 116, 116, 112, 115] ∧ h = true then 2
  else if n = [109, 97, 105, 108, 116, 111] then 3
  else if n = [99, 105, 100] then 4
  else 5
def kindF (l : List UInt8) : Int := kindG (schemeF l).1 (schemeF l).2 (hostedF (cleanF l))

set_option maxRecDepth 100000 in
set_option maxHeartbeats 1600000 in
theorem kind_any (s : ByteArray) (w : World) (hG : Good w) (hs : s.size < 4294967281) :
    Calls Tryz.prog 38 #[.string s] w fun e w' => e = .returned (.int .i64 (kindF s.data.toList)) ∧ Below w.heap.size w w' := by
  have HS := Lib.hid (scheme_any s w hG hs)
  have HC := Lib.hid (fun w1 => clean_any s w1 hs)
  have hcl := cleanF_le s.data.toList
  rw [← Lib.size_eq] at hcl
  have HH := Lib.hid (fun w1 (hb : Below w.heap.size w w1) => hosted_any ⟨(cleanF s.data.toList).toArray⟩ w1 (hG.below hb) (by rw [size_mk]; omega))
  have hk : kindF s.data.toList = kindG (schemeF s.data.toList).1 (schemeF s.data.toList).2 (hostedF (cleanF s.data.toList)) := rfl
  rw [hk]
  clear hk
  rw [mk_toList] at HH
  obtain ⟨h, hh⟩ : ∃ h, hostedF (cleanF s.data.toList) = h := ⟨_, rfl⟩
  obtain ⟨c, hc⟩ : ∃ c : ByteArray, (⟨(cleanF s.data.toList).toArray⟩ : ByteArray) = c := ⟨_, rfl⟩
  obtain ⟨n, hn⟩ : ∃ n, (schemeF s.data.toList).1 = n := ⟨_, rfl⟩
  obtain ⟨f, hf⟩ : ∃ f, (schemeF s.data.toList).2 = f := ⟨_, rfl⟩
  rw [hh, hc] at HH
  rw [hc] at HC
  rw [hn, hf] at HS
  rw [hh, hn, hf]
  obtain ⟨nb, hnb⟩ : ∃ nb : ByteArray, (⟨n.toArray⟩ : ByteArray) = nb := ⟨_, rfl⟩
  rw [hnb] at HS
  obtain rfl : nb.data.toList = n := by rw [← hnb]
  clear hnb hn hf hh hc hcl
  obtain ⟨R, hR⟩ : ∃ R, kindG nb.data.toList f h = R := ⟨_, rfl⟩
  rw [hR]
  unfold kindG at hR
  cases f with
  | false =>
    rw [if_pos rfl] at hR
    subst hR
    go_enter Tryz.func38, Tryz.ntmps38
    go_wp2_with fail
    refine HS.out.mono ?_
    rintro e w1 ⟨rfl, hb1⟩
    have HB1 := Lib.hid hb1
    clear hb1
    go_wp2_with fail
    go_ret
    exact ⟨rfl, HB1.out⟩
  | true =>
    rw [if_neg (by decide)] at hR
    by_cases h0 : nb.data.toList = [104, 116, 116, 112]
    · have e0 := beq_yes h0
      have e1 : (nb.toList == [104, 116, 116, 112, 115]) = false := by rw [ByteArray.toList_eq, h0]; rfl
      have e2 : (nb.toList == [109, 97, 105, 108, 116, 111]) = false := by rw [ByteArray.toList_eq, h0]; rfl
      have e3 : (nb.toList == [99, 105, 100]) = false := by rw [ByteArray.toList_eq, h0]; rfl
      rw [h0] at hR
      clear h0
      cases h with
      | true =>
        simp at hR
        subst hR
        go_enter Tryz.func38, Tryz.ntmps38
        go_wp2_with fail
        refine HS.out.mono ?_
        rintro e w1 ⟨rfl, hb1⟩
        have HB1 := Lib.hid hb1
        clear hb1
        go_wp2_with fail
        refine (HC.out w1).mono ?_
        rintro e w2 ⟨rfl, hb2⟩
        have HB2 := Lib.hid (below_then' HB1.out hb2)
        clear hb2
        go_wp2_with fail
        refine (HH.out w2 HB2.out).mono ?_
        rintro e w3 ⟨rfl, hb3⟩
        have HB3 := Lib.hid (below_then' HB2.out hb3)
        clear hb3
        go_wp2_with fail
        go_ret
        exact ⟨rfl, HB3.out⟩
      | false =>
        simp at hR
        subst hR
        go_enter Tryz.func38, Tryz.ntmps38
        go_wp2_with fail
        refine HS.out.mono ?_
        rintro e w1 ⟨rfl, hb1⟩
        have HB1 := Lib.hid hb1
        clear hb1
        go_wp2_with fail
        refine (HC.out w1).mono ?_
        rintro e w2 ⟨rfl, hb2⟩
        have HB2 := Lib.hid (below_then' HB1.out hb2)
        clear hb2
        go_wp2_with fail
        refine (HH.out w2 HB2.out).mono ?_
        rintro e w3 ⟨rfl, hb3⟩
        have HB3 := Lib.hid (below_then' HB2.out hb3)
        clear hb3
        go_wp2_with fail
        go_ret
        exact ⟨rfl, HB3.out⟩
    · skip
      by_cases h1 : nb.data.toList = [104, 116, 116, 112, 115]
      · have e0 : (nb.toList == [104, 116, 116, 112]) = false := by rw [ByteArray.toList_eq, h1]; rfl
        have e1 := beq_yes h1
        have e2 : (nb.toList == [109, 97, 105, 108, 116, 111]) = false := by rw [ByteArray.toList_eq, h1]; rfl
        have e3 : (nb.toList == [99, 105, 100]) = false := by rw [ByteArray.toList_eq, h1]; rfl
        rw [h1] at hR
        clear h1 h0
        cases h with
        | true =>
          simp at hR
          subst hR
          go_enter Tryz.func38, Tryz.ntmps38
          go_wp2_with fail
          refine HS.out.mono ?_
          rintro e w1 ⟨rfl, hb1⟩
          have HB1 := Lib.hid hb1
          clear hb1
          go_wp2_with fail
          refine (HC.out w1).mono ?_
          rintro e w2 ⟨rfl, hb2⟩
          have HB2 := Lib.hid (below_then' HB1.out hb2)
          clear hb2
          go_wp2_with fail
          refine (HH.out w2 HB2.out).mono ?_
          rintro e w3 ⟨rfl, hb3⟩
          have HB3 := Lib.hid (below_then' HB2.out hb3)
          clear hb3
          go_wp2_with fail
          go_ret
          exact ⟨rfl, HB3.out⟩
        | false =>
          simp at hR
          subst hR
          go_enter Tryz.func38, Tryz.ntmps38
          go_wp2_with fail
          refine HS.out.mono ?_
          rintro e w1 ⟨rfl, hb1⟩
          have HB1 := Lib.hid hb1
          clear hb1
          go_wp2_with fail
          refine (HC.out w1).mono ?_
          rintro e w2 ⟨rfl, hb2⟩
          have HB2 := Lib.hid (below_then' HB1.out hb2)
          clear hb2
          go_wp2_with fail
          refine (HH.out w2 HB2.out).mono ?_
          rintro e w3 ⟨rfl, hb3⟩
          have HB3 := Lib.hid (below_then' HB2.out hb3)
          clear hb3
          go_wp2_with fail
          go_ret
          exact ⟨rfl, HB3.out⟩
      · skip
        by_cases h2 : nb.data.toList = [109, 97, 105, 108, 116, 111]
        · have e0 : (nb.toList == [104, 116, 116, 112]) = false := by rw [ByteArray.toList_eq, h2]; rfl
          have e1 : (nb.toList == [104, 116, 116, 112, 115]) = false := by rw [ByteArray.toList_eq, h2]; rfl
          have e2 := beq_yes h2
          have e3 : (nb.toList == [99, 105, 100]) = false := by rw [ByteArray.toList_eq, h2]; rfl
          rw [h2] at hR
          clear h2 h0 h1
          simp at hR
          subst hR
          go_enter Tryz.func38, Tryz.ntmps38
          go_wp2_with fail
          refine HS.out.mono ?_
          rintro e w1 ⟨rfl, hb1⟩
          have HB1 := Lib.hid hb1
          clear hb1
          go_wp2_with fail
          go_ret
          exact ⟨rfl, HB1.out⟩
        · skip
          by_cases h3 : nb.data.toList = [99, 105, 100]
          · have e0 : (nb.toList == [104, 116, 116, 112]) = false := by rw [ByteArray.toList_eq, h3]; rfl
            have e1 : (nb.toList == [104, 116, 116, 112, 115]) = false := by rw [ByteArray.toList_eq, h3]; rfl
            have e2 : (nb.toList == [109, 97, 105, 108, 116, 111]) = false := by rw [ByteArray.toList_eq, h3]; rfl
            have e3 := beq_yes h3
            rw [h3] at hR
            clear h3 h0 h1 h2
            simp at hR
            subst hR
            go_enter Tryz.func38, Tryz.ntmps38
            go_wp2_with fail
            refine HS.out.mono ?_
            rintro e w1 ⟨rfl, hb1⟩
            have HB1 := Lib.hid hb1
            clear hb1
            go_wp2_with fail
            go_ret
            exact ⟨rfl, HB1.out⟩
          · skip
            have e0 := beq_no h0
            have e1 := beq_no h1
            have e2 := beq_no h2
            have e3 := beq_no h3
            simp only [h0, h1, h2, h3, false_and, if_false] at hR
            subst hR
            clear h0 h1 h2 h3
            go_enter Tryz.func38, Tryz.ntmps38
            go_wp2_with fail
            refine HS.out.mono ?_
            rintro e w1 ⟨rfl, hb1⟩
            have HB1 := Lib.hid hb1
            clear hb1
            go_wp2_with fail
            go_ret
            exact ⟨rfl, HB1.out⟩
end Go.Proofs.YtchooidhieaphaaGreatDoor
