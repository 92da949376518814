/- judge.src returns what srcF says. Condition: texts below 2^32 - 15 bytes. -/
import Derived.Test.YtchooidhieaphaaGreatDoorHref
import Derived.Lib.ItoaLen
set_option linter.unusedVariables false
set_option linter.unusedSimpArgs false
namespace Go.Proofs.YtchooidhieaphaaGreatDoor
open Go.RowKit Go.Proofs.YtchooidhieaphaaGreatDoorW.PrintWords PRulesValues

theorem hasPrefix_len {l p : List UInt8} (h : Lib.hasPrefix l p = true) : p.length ≤ l.length := by
  unfold Lib.hasPrefix at h
  have := List.isPrefixOf_iff_prefix.1 h
  exact this.length_le
theorem extract_drop (s : ByteArray) (k : Nat) : (s.extract k s.size).data.toList = s.data.toList.drop k := by
  rw [ByteArray.data_extract, Array.toList_extract, List.extract_eq_take_drop]
  rw [List.take_of_length_le]
  rw [List.length_drop]
  exact Nat.le_of_eq rfl
theorem str_join (a b : List UInt8) : Value.string ((⟨a.toArray⟩ : ByteArray) ++ ⟨b.toArray⟩) = Value.string ⟨(a ++ b).toArray⟩ := by
  congr 1

/-- "att:". -/
def attB : List UInt8 := [97, 116, 116, 58]
/-- The number behind "att:", where it is written plainly; else -1. -/
def attN (u : List UInt8) : Int := match atoiF (u.drop 4) with | some i => if u = attB ++ Lib.itoa i then i else -1 | none => -1
/-- The attachment that an address names; -1: none. -/
def srcN (l : List S39) (v : List UInt8) : Int := if kindF v = 4 then findF l ⟨(Lib.cut (cleanF v) [58]).2.1.toArray⟩ else if Lib.hasPrefix (cleanF v) attB = true then attN (cleanF v) else -1
def srcG (l : List S39) (n : Int) : List UInt8 × Bool := if 0 ≤ n ∧ n < l.length ∧ Lib.hasPrefix (rd_T39 l n).f1.data.toList [105, 109, 97, 103, 101, 47] = true then (attB ++ Lib.itoa n, true) else ([], false)
def srcF (b : Bool) (l : List S39) (v : List UInt8) : List UInt8 × Bool := if kindF v = 2 ∧ b = true then (cleanF v, true) else srcG l (srcN l v)

set_option maxRecDepth 100000 in
set_option maxHeartbeats 3200000 in
theorem src_any (b1 b2 b3 : Bool) (A : Option Addr) (c : Nat) (l : List S39) (v : ByteArray) (w : World) (hG : Good w) (hv : v.size < 4294967281) (hC : Kd.C k39 w A l.length l) (hl : l.length < 9223372036854775807) :
    Calls Tryz.prog 24 #[.agg #[.bool b1, .bool b2, .bool b3, .slice A l.length c], .string v] w fun en w' => en = .returned (.tuple #[.string ⟨(srcF b1 l v.data.toList).1.toArray⟩, .bool (srcF b1 l v.data.toList).2]) ∧ Below w.heap.size w w' := by
  obtain ⟨W0, hW0⟩ : ∃ W0, w.alloc (Obj.cells #[Value.bool b1, Value.bool b2, Value.bool b3, .slice A l.length c] 43) = W0 := ⟨_, rfl⟩
  have hB0 : Below w.heap.size w W0 := hW0 ▸ (Below.refl _ _).alloc (Nat.le_refl _) _
  have hr0 : W0.heap[w.heap.size]? = some (.cells #[Value.bool b1, Value.bool b2, Value.bool b3, .slice A l.length c] 43 (0, 0)) := by rw [← hW0]; exact blk_new _ _
  have HB0 := Lib.hid hB0
  have HW0 := Lib.hid hW0
  have HR0 := Lib.hid hr0
  have HG0 := Lib.hid (hG.below hB0)
  have HC0 := Lib.hid (Kd.C_below hC hB0)
  have HKi := Lib.hid (fun w1 (h : Good w1) => kind_any v w1 h hv)
  have HCl := Lib.hid (clean_any v W0 hv)
  have hle := cleanF_le v.data.toList
  rw [← Lib.size_eq] at hle
  have hcs : (⟨(cleanF v.data.toList).toArray⟩ : ByteArray).size < 4294967281 := by rw [size_mk]; omega
  have hk := kindF_cases v.data.toList
  have hF : srcF b1 l v.data.toList = if kindF v.data.toList = 2 ∧ b1 = true then (cleanF v.data.toList, true) else srcG l (if kindF v.data.toList = 4 then findF l ⟨(Lib.cut (cleanF v.data.toList) [58]).2.1.toArray⟩ else if Lib.hasPrefix (cleanF v.data.toList) attB = true then attN (cleanF v.data.toList) else -1) := rfl
  rw [hF]
  obtain ⟨k, hkk⟩ : ∃ k, kindF v.data.toList = k := ⟨_, rfl⟩
  obtain ⟨cb, hcb⟩ : ∃ cb : ByteArray, (⟨(cleanF v.data.toList).toArray⟩ : ByteArray) = cb := ⟨_, rfl⟩
  have hcl : cleanF v.data.toList = cb.data.toList := by rw [← hcb]
  rw [hkk] at HKi hk ⊢
  rw [hcb] at HCl hcs
  rw [hcl]
  clear hkk hW0 hB0 hG hF hC hr0 hcb hcl hle hv
  have HCut := Lib.hid (fun w1 (h : Good w1) => cut_any cb 58 w1 h hcs)
  have HFind := Lib.hid (fun (id : ByteArray) (w1 : World) (h : Kd.C k39 w1 A l.length l) => find_any A c l id w1 h hl)
  have HPre := Lib.hid (fun (p : ByteArray) (w1 : World) => hasP_any cb p w1)
  have HAtoi := Lib.hid (fun (s : ByteArray) (w1 : World) (h : Good w1) => atoi_any s w1 h)
  have HItoa := Lib.hid (fun (n : Int) (w1 : World) (h : Good w1) (h0) (h1) => itoa_any n w1 h h0 h1)
  have HB := HB0
  have HR := HR0
  have HG := HG0
  have HC := HC0
  clear HR0 HG0 HC0
  by_cases hkb : k = 2 ∧ b1 = true
  · obtain ⟨rfl, rfl⟩ := hkb
    rw [if_pos ⟨rfl, rfl⟩]
    clear hk
    go_enter Tryz.func24, Tryz.ntmps24
    go_wp2_with fail
    rw [HW0.out]
    refine (HCl.out).mono ?_
    rintro en w1 ⟨rfl, hb⟩
    replace HB := Lib.hid (below_then' HB.out hb)
    replace HR := Lib.hid (blk_below HR.out hb)
    replace HG := Lib.hid (HG.out.below hb)
    replace HC := Lib.hid (Kd.C_below HC.out hb)
    clear hb
    go_wp2_with fail
    refine (HKi.out w1 HG.out).mono ?_
    rintro en w2 ⟨rfl, hb⟩
    replace HB := Lib.hid (below_then' HB.out hb)
    replace HR := Lib.hid (blk_below HR.out hb)
    replace HG := Lib.hid (HG.out.below hb)
    replace HC := Lib.hid (Kd.C_below HC.out hb)
    clear hb
    have j0 : w2.cell? ⟨w.heap.size, 0, none⟩ = some (.bool true) := blk_cell HR.out 0
    have j3 : w2.cell? ⟨w.heap.size, 3, none⟩ = some (.slice A l.length c) := blk_cell HR.out 3
    go_wp2_with fail
    go_ret2
    exact ⟨rfl, HB.out⟩
  · rw [if_neg hkb]
    by_cases hk4 : k = 4
    · subst hk4
      rw [if_pos rfl]
      clear hk hkb HPre HAtoi
      obtain ⟨id, hid⟩ : ∃ id : ByteArray, (⟨(Lib.cut cb.data.toList [58]).2.1.toArray⟩ : ByteArray) = id := ⟨_, rfl⟩
      replace HFind := Lib.hid (fun w1 h => HFind.out id w1 h)
      have hr := findF_range l id
      rw [hid] at HCut ⊢
      obtain ⟨f, hf⟩ : ∃ f, findF l id = f := ⟨_, rfl⟩
      rw [hf] at HFind hr ⊢
      clear hid hf
      rcases hr with rfl | ⟨h0, h1⟩
      · have hG0 : srcG l (-1) = ([], false) := if_neg (fun h => absurd h.1 (by decide))
        rw [hG0]
        clear hG0
        replace HFind := Lib.hid (fun w1 h => by have := HFind.out w1 h; rwa [if_neg (show ¬ (0 : Int) ≤ -1 by decide)] at this)
        go_enter Tryz.func24, Tryz.ntmps24
        go_wp2_with fail
        rw [HW0.out]
        refine (HCl.out).mono ?_
        rintro en w1 ⟨rfl, hb⟩
        replace HB := Lib.hid (below_then' HB.out hb)
        replace HR := Lib.hid (blk_below HR.out hb)
        replace HG := Lib.hid (HG.out.below hb)
        replace HC := Lib.hid (Kd.C_below HC.out hb)
        clear hb
        go_wp2_with fail
        refine (HKi.out w1 HG.out).mono ?_
        rintro en w2 ⟨rfl, hb⟩
        replace HB := Lib.hid (below_then' HB.out hb)
        replace HR := Lib.hid (blk_below HR.out hb)
        replace HG := Lib.hid (HG.out.below hb)
        replace HC := Lib.hid (Kd.C_below HC.out hb)
        clear hb
        have j0 : w2.cell? ⟨w.heap.size, 0, none⟩ = some (.bool b1) := blk_cell HR.out 0
        have j3 : w2.cell? ⟨w.heap.size, 3, none⟩ = some (.slice A l.length c) := blk_cell HR.out 3
        go_wp2_with fail
        refine (HCut.out w2 HG.out).mono ?_
        rintro en w3 ⟨rfl, hb⟩
        replace HB := Lib.hid (below_then' HB.out hb)
        replace HR := Lib.hid (blk_below HR.out hb)
        replace HG := Lib.hid (HG.out.below hb)
        replace HC := Lib.hid (Kd.C_below HC.out hb)
        clear hb
        have j0 : w3.cell? ⟨w.heap.size, 0, none⟩ = some (.bool b1) := blk_cell HR.out 0
        have j3 : w3.cell? ⟨w.heap.size, 3, none⟩ = some (.slice A l.length c) := blk_cell HR.out 3
        go_wp2_with fail
        refine (HFind.out w3 HC.out).mono ?_
        rintro en w4 ⟨rfl, hb⟩
        replace HB := Lib.hid (below_then' HB.out hb)
        replace HR := Lib.hid (blk_below HR.out hb)
        replace HG := Lib.hid (HG.out.below hb)
        replace HC := Lib.hid (Kd.C_below HC.out hb)
        clear hb
        have j0 : w4.cell? ⟨w.heap.size, 0, none⟩ = some (.bool b1) := blk_cell HR.out 0
        have j3 : w4.cell? ⟨w.heap.size, 3, none⟩ = some (.slice A l.length c) := blk_cell HR.out 3
        go_wp2_with fail
        go_ret2
        exact ⟨rfl, HB.out⟩
      · replace HFind := Lib.hid (fun w1 h => by have := HFind.out w1 h; rwa [if_pos h0] at this)
        have hd0 : decide (0 ≤ f) = true := decide_eq_true h0
        have HI := Lib.hid (fun wx => hasP_any (rd_T39 l f).f1 ⟨#[105, 109, 97, 103, 101, 47]⟩ wx)
        obtain ⟨q, hq⟩ : ∃ q, Lib.hasPrefix (rd_T39 l f).f1.data.toList (⟨#[105, 109, 97, 103, 101, 47]⟩ : ByteArray).data.toList = q := ⟨_, rfl⟩
        rw [hq] at HI
        have hG : srcG l f = if q = true then (attB ++ Lib.itoa f, true) else ([], false) := by
          rw [← hq]
          unfold srcG
          by_cases hh : Lib.hasPrefix (rd_T39 l f).f1.data.toList (⟨#[105, 109, 97, 103, 101, 47]⟩ : ByteArray).data.toList = true
          · rw [if_pos ⟨h0, h1, hh⟩, if_pos hh]
          · rw [if_neg (fun h => hh h.2.2), if_neg hh]
        rw [hG]
        clear hq hG
        cases q with
        | false =>
          rw [if_neg (by decide)]
          go_enter Tryz.func24, Tryz.ntmps24
          go_wp2_with fail
          rw [HW0.out]
          refine (HCl.out).mono ?_
          rintro en w1 ⟨rfl, hb⟩
          replace HB := Lib.hid (below_then' HB.out hb)
          replace HR := Lib.hid (blk_below HR.out hb)
          replace HG := Lib.hid (HG.out.below hb)
          replace HC := Lib.hid (Kd.C_below HC.out hb)
          clear hb
          go_wp2_with fail
          refine (HKi.out w1 HG.out).mono ?_
          rintro en w2 ⟨rfl, hb⟩
          replace HB := Lib.hid (below_then' HB.out hb)
          replace HR := Lib.hid (blk_below HR.out hb)
          replace HG := Lib.hid (HG.out.below hb)
          replace HC := Lib.hid (Kd.C_below HC.out hb)
          clear hb
          have j0 : w2.cell? ⟨w.heap.size, 0, none⟩ = some (.bool b1) := blk_cell HR.out 0
          have j3 : w2.cell? ⟨w.heap.size, 3, none⟩ = some (.slice A l.length c) := blk_cell HR.out 3
          go_wp2_with fail
          refine (HCut.out w2 HG.out).mono ?_
          rintro en w3 ⟨rfl, hb⟩
          replace HB := Lib.hid (below_then' HB.out hb)
          replace HR := Lib.hid (blk_below HR.out hb)
          replace HG := Lib.hid (HG.out.below hb)
          replace HC := Lib.hid (Kd.C_below HC.out hb)
          clear hb
          have j0 : w3.cell? ⟨w.heap.size, 0, none⟩ = some (.bool b1) := blk_cell HR.out 0
          have j3 : w3.cell? ⟨w.heap.size, 3, none⟩ = some (.slice A l.length c) := blk_cell HR.out 3
          go_wp2_with fail
          refine (HFind.out w3 HC.out).mono ?_
          rintro en w4 ⟨rfl, hb⟩
          replace HB := Lib.hid (below_then' HB.out hb)
          replace HR := Lib.hid (blk_below HR.out hb)
          replace HG := Lib.hid (HG.out.below hb)
          replace HC := Lib.hid (Kd.C_below HC.out hb)
          clear hb
          have j0 : w4.cell? ⟨w.heap.size, 0, none⟩ = some (.bool b1) := blk_cell HR.out 0
          have j3 : w4.cell? ⟨w.heap.size, 3, none⟩ = some (.slice A l.length c) := blk_cell HR.out 3
          obtain ⟨ad, rfl, c0, c1, c2, c3⟩ := at_T39 HC.out f h0 h1
          clear c0 c2 c3
          go_wp2_with fail
          refine (HI.out w4).mono ?_
          rintro en w' ⟨rfl, rfl⟩
          go_wp2_with fail
          go_ret2
          exact ⟨rfl, HB.out⟩
        | true =>
          rw [if_pos rfl]
          have hil := Lib.itoa_length_le f (by omega) (by omega)
          rw [← size_mk] at hil
          have HIa := Lib.hid (fun w1 h => HItoa.out f w1 h (by omega) (by omega))
          have HJ := Lib.hid (str_join attB (Lib.itoa f))
          obtain ⟨ib, hib2⟩ : ∃ ib : ByteArray, (⟨(Lib.itoa f).toArray⟩ : ByteArray) = ib := ⟨_, rfl⟩
          rw [hib2] at hil HIa HJ
          clear hib2
          go_enter Tryz.func24, Tryz.ntmps24
          go_wp2_with fail
          rw [HW0.out]
          refine (HCl.out).mono ?_
          rintro en w1 ⟨rfl, hb⟩
          replace HB := Lib.hid (below_then' HB.out hb)
          replace HR := Lib.hid (blk_below HR.out hb)
          replace HG := Lib.hid (HG.out.below hb)
          replace HC := Lib.hid (Kd.C_below HC.out hb)
          clear hb
          go_wp2_with fail
          refine (HKi.out w1 HG.out).mono ?_
          rintro en w2 ⟨rfl, hb⟩
          replace HB := Lib.hid (below_then' HB.out hb)
          replace HR := Lib.hid (blk_below HR.out hb)
          replace HG := Lib.hid (HG.out.below hb)
          replace HC := Lib.hid (Kd.C_below HC.out hb)
          clear hb
          have j0 : w2.cell? ⟨w.heap.size, 0, none⟩ = some (.bool b1) := blk_cell HR.out 0
          have j3 : w2.cell? ⟨w.heap.size, 3, none⟩ = some (.slice A l.length c) := blk_cell HR.out 3
          go_wp2_with fail
          refine (HCut.out w2 HG.out).mono ?_
          rintro en w3 ⟨rfl, hb⟩
          replace HB := Lib.hid (below_then' HB.out hb)
          replace HR := Lib.hid (blk_below HR.out hb)
          replace HG := Lib.hid (HG.out.below hb)
          replace HC := Lib.hid (Kd.C_below HC.out hb)
          clear hb
          have j0 : w3.cell? ⟨w.heap.size, 0, none⟩ = some (.bool b1) := blk_cell HR.out 0
          have j3 : w3.cell? ⟨w.heap.size, 3, none⟩ = some (.slice A l.length c) := blk_cell HR.out 3
          go_wp2_with fail
          refine (HFind.out w3 HC.out).mono ?_
          rintro en w4 ⟨rfl, hb⟩
          replace HB := Lib.hid (below_then' HB.out hb)
          replace HR := Lib.hid (blk_below HR.out hb)
          replace HG := Lib.hid (HG.out.below hb)
          replace HC := Lib.hid (Kd.C_below HC.out hb)
          clear hb
          have j0 : w4.cell? ⟨w.heap.size, 0, none⟩ = some (.bool b1) := blk_cell HR.out 0
          have j3 : w4.cell? ⟨w.heap.size, 3, none⟩ = some (.slice A l.length c) := blk_cell HR.out 3
          obtain ⟨ad, rfl, c0, c1, c2, c3⟩ := at_T39 HC.out f h0 h1
          clear c0 c2 c3
          go_wp2_with fail
          refine (HI.out w4).mono ?_
          rintro en w' ⟨rfl, rfl⟩
          go_wp2_with fail
          refine (HIa.out _ HG.out).mono ?_
          rintro en w5 ⟨rfl, hb⟩
          replace HB := Lib.hid (below_then' HB.out hb)
          replace HR := Lib.hid (blk_below HR.out hb)
          replace HG := Lib.hid (HG.out.below hb)
          replace HC := Lib.hid (Kd.C_below HC.out hb)
          clear hb
          go_wp2_with fail
          go_ret2
          exact ⟨tuple2 HJ.out rfl, HB.out⟩
    · rw [if_neg hk4]
      obtain ⟨p, hp⟩ : ∃ p, Lib.hasPrefix cb.data.toList attB = p := ⟨_, rfl⟩
      have hp' : Lib.hasPrefix cb.data.toList (⟨#[97, 116, 116, 58]⟩ : ByteArray).data.toList = p := hp
      replace HPre := Lib.hid (fun w1 => by have := HPre.out ⟨#[97, 116, 116, 58]⟩ w1; rwa [hp'] at this)
      have hsz : p = true → 4 ≤ cb.size := fun h => by
        rw [h] at hp
        rw [Lib.size_eq]
        exact hasPrefix_len hp
      rw [hp]
      have HK2 := Lib.hid hkb
      clear hp hp' hk hkb
      cases p with
      | false =>
        by_cases hk2 : k = 2
        · subst hk2
          obtain rfl : b1 = false := by
            cases hb : b1 with
            | false => rfl
            | true => exact absurd ⟨rfl, hb⟩ HK2.out
          clear HK2 hk4
          clear hsz
          rw [if_neg (by decide)]
          have hG0 : srcG l (-1) = ([], false) := if_neg (fun h => absurd h.1 (by decide))
          rw [hG0]
          clear hG0
          go_enter Tryz.func24, Tryz.ntmps24
          go_wp2_with fail
          rw [HW0.out]
          refine (HCl.out).mono ?_
          rintro en w1 ⟨rfl, hb⟩
          replace HB := Lib.hid (below_then' HB.out hb)
          replace HR := Lib.hid (blk_below HR.out hb)
          replace HG := Lib.hid (HG.out.below hb)
          replace HC := Lib.hid (Kd.C_below HC.out hb)
          clear hb
          go_wp2_with fail
          refine (HKi.out w1 HG.out).mono ?_
          rintro en w2 ⟨rfl, hb⟩
          replace HB := Lib.hid (below_then' HB.out hb)
          replace HR := Lib.hid (blk_below HR.out hb)
          replace HG := Lib.hid (HG.out.below hb)
          replace HC := Lib.hid (Kd.C_below HC.out hb)
          clear hb
          have j0 : w2.cell? ⟨w.heap.size, 0, none⟩ = some (.bool false) := blk_cell HR.out 0
          have j3 : w2.cell? ⟨w.heap.size, 3, none⟩ = some (.slice A l.length c) := blk_cell HR.out 3
          go_wp2_with fail
          refine (HPre.out w2).mono ?_
          rintro en w3 ⟨rfl, rfl⟩
          go_wp2_with fail
          go_ret2
          exact ⟨rfl, HB.out⟩
        · have hk2b : (k == 2) = false := by simp [hk2]
          have hk4b : (k == 4) = false := by simp [hk4]
          clear HK2 hk2 hk4
          clear hsz
          rw [if_neg (by decide)]
          have hG0 : srcG l (-1) = ([], false) := if_neg (fun h => absurd h.1 (by decide))
          rw [hG0]
          clear hG0
          go_enter Tryz.func24, Tryz.ntmps24
          go_wp2_with fail
          rw [HW0.out]
          refine (HCl.out).mono ?_
          rintro en w1 ⟨rfl, hb⟩
          replace HB := Lib.hid (below_then' HB.out hb)
          replace HR := Lib.hid (blk_below HR.out hb)
          replace HG := Lib.hid (HG.out.below hb)
          replace HC := Lib.hid (Kd.C_below HC.out hb)
          clear hb
          go_wp2_with fail
          refine (HKi.out w1 HG.out).mono ?_
          rintro en w2 ⟨rfl, hb⟩
          replace HB := Lib.hid (below_then' HB.out hb)
          replace HR := Lib.hid (blk_below HR.out hb)
          replace HG := Lib.hid (HG.out.below hb)
          replace HC := Lib.hid (Kd.C_below HC.out hb)
          clear hb
          have j0 : w2.cell? ⟨w.heap.size, 0, none⟩ = some (.bool b1) := blk_cell HR.out 0
          have j3 : w2.cell? ⟨w.heap.size, 3, none⟩ = some (.slice A l.length c) := blk_cell HR.out 3
          go_wp2_with fail
          refine (HPre.out w2).mono ?_
          rintro en w3 ⟨rfl, rfl⟩
          go_wp2_with fail
          go_ret2
          exact ⟨rfl, HB.out⟩
      | true =>
        by_cases hk2 : k = 2
        · subst hk2
          obtain rfl : b1 = false := by
            cases hb : b1 with
            | false => rfl
            | true => exact absurd ⟨rfl, hb⟩ HK2.out
          clear HK2 hk4
          rw [if_pos rfl]
          have hs4 := hsz rfl
          clear hsz
          have hx : (cb.extract 4 cb.size).data.toList = cb.data.toList.drop 4 := extract_drop cb 4
          have hxs : (cb.extract 4 cb.size).size < 4294967281 := by rw [Lib.size_eq, hx, List.length_drop, ← Lib.size_eq]; omega
          replace HAtoi := Lib.hid (fun w1 h => HAtoi.out (cb.extract 4 cb.size) w1 h hxs)
          rw [hx] at HAtoi
          cases ha : atoiF (cb.data.toList.drop 4) with
          | none =>
            have hn : attN cb.data.toList = -1 := by unfold attN; rw [ha]
            have hG0 : srcG l (-1) = ([], false) := if_neg (fun h => absurd h.1 (by decide))
            rw [hn, hG0]
            rw [ha] at HAtoi
            clear hn hG0 hx hxs ha
            go_enter Tryz.func24, Tryz.ntmps24
            go_wp2_with fail
            rw [HW0.out]
            refine (HCl.out).mono ?_
            rintro en w1 ⟨rfl, hb⟩
            replace HB := Lib.hid (below_then' HB.out hb)
            replace HR := Lib.hid (blk_below HR.out hb)
            replace HG := Lib.hid (HG.out.below hb)
            replace HC := Lib.hid (Kd.C_below HC.out hb)
            clear hb
            go_wp2_with fail
            refine (HKi.out w1 HG.out).mono ?_
            rintro en w2 ⟨rfl, hb⟩
            replace HB := Lib.hid (below_then' HB.out hb)
            replace HR := Lib.hid (blk_below HR.out hb)
            replace HG := Lib.hid (HG.out.below hb)
            replace HC := Lib.hid (Kd.C_below HC.out hb)
            clear hb
            have j0 : w2.cell? ⟨w.heap.size, 0, none⟩ = some (.bool false) := blk_cell HR.out 0
            have j3 : w2.cell? ⟨w.heap.size, 3, none⟩ = some (.slice A l.length c) := blk_cell HR.out 3
            go_wp2_with fail
            refine (HPre.out w2).mono ?_
            rintro en w3 ⟨rfl, rfl⟩
            go_wp2_with fail
            refine (HAtoi.out w2 HG.out).mono ?_
            rintro en w3 ⟨⟨i, er, rfl, hcase⟩, hb⟩
            rcases hcase with ⟨h, _⟩ | ⟨_, t, p, rfl⟩
            · cases h
            replace HB := Lib.hid (below_then' HB.out hb)
            clear hb
            go_wp2_with fail
            go_ret2
            exact ⟨rfl, HB.out⟩
          | some i =>
            have hib := atoiF_bounds ha
            rw [ha] at HAtoi
            have HEq := Lib.hid (show (cb.data.toList = attB ++ Lib.itoa i → attN cb.data.toList = i) ∧ (¬ cb.data.toList = attB ++ Lib.itoa i → attN cb.data.toList = -1) from ⟨fun h => by unfold attN; rw [ha]; exact if_pos h, fun h => by unfold attN; rw [ha]; exact if_neg h⟩)
            clear hx hxs ha
            have HIs := Lib.hid (fun w1 h => HItoa.out i w1 h hib.1 hib.2)
            obtain ⟨tb, htb⟩ : ∃ tb : ByteArray, (⟨(Lib.itoa i).toArray⟩ : ByteArray) = tb := ⟨_, rfl⟩
            have htl : (((⟨#[97, 116, 116, 58]⟩ : ByteArray) ++ tb).toList) = attB ++ Lib.itoa i := by
              rw [← htb, ByteArray.toList_eq]
              simp [ByteArray.data_append, attB]
            have hts : tb.size ≤ 21 := by rw [← htb, size_mk]; exact Lib.itoa_length_le i hib.1 hib.2
            rw [htb] at HIs
            clear htb
            by_cases he : cb.data.toList = attB ++ Lib.itoa i
            · have hd : (cb.toList == ((⟨#[97, 116, 116, 58]⟩ : ByteArray) ++ tb).toList) = true := by rw [htl, ByteArray.toList_eq, he]; simp
              rw [HEq.out.1 he]
              clear he htl HEq
              by_cases h0 : 0 ≤ i
              · by_cases h1 : i < l.length
                · have HI := Lib.hid (fun wx => hasP_any (rd_T39 l i).f1 ⟨#[105, 109, 97, 103, 101, 47]⟩ wx)
                  obtain ⟨q, hq⟩ : ∃ q, Lib.hasPrefix (rd_T39 l i).f1.data.toList (⟨#[105, 109, 97, 103, 101, 47]⟩ : ByteArray).data.toList = q := ⟨_, rfl⟩
                  rw [hq] at HI
                  have hG : srcG l i = if q = true then (attB ++ Lib.itoa i, true) else ([], false) := by
                    rw [← hq]
                    unfold srcG
                    by_cases hh : Lib.hasPrefix (rd_T39 l i).f1.data.toList (⟨#[105, 109, 97, 103, 101, 47]⟩ : ByteArray).data.toList = true
                    · rw [if_pos ⟨h0, h1, hh⟩, if_pos hh]
                    · rw [if_neg (fun h => hh h.2.2), if_neg hh]
                  rw [hG]
                  clear hq hG
                  cases q with
                  | false =>
                    rw [if_neg (by decide)]
                    go_enter Tryz.func24, Tryz.ntmps24
                    go_wp2_with fail
                    rw [HW0.out]
                    refine (HCl.out).mono ?_
                    rintro en w1 ⟨rfl, hb⟩
                    replace HB := Lib.hid (below_then' HB.out hb)
                    replace HR := Lib.hid (blk_below HR.out hb)
                    replace HG := Lib.hid (HG.out.below hb)
                    replace HC := Lib.hid (Kd.C_below HC.out hb)
                    clear hb
                    go_wp2_with fail
                    refine (HKi.out w1 HG.out).mono ?_
                    rintro en w2 ⟨rfl, hb⟩
                    replace HB := Lib.hid (below_then' HB.out hb)
                    replace HR := Lib.hid (blk_below HR.out hb)
                    replace HG := Lib.hid (HG.out.below hb)
                    replace HC := Lib.hid (Kd.C_below HC.out hb)
                    clear hb
                    have j0 : w2.cell? ⟨w.heap.size, 0, none⟩ = some (.bool false) := blk_cell HR.out 0
                    have j3 : w2.cell? ⟨w.heap.size, 3, none⟩ = some (.slice A l.length c) := blk_cell HR.out 3
                    go_wp2_with fail
                    refine (HPre.out w2).mono ?_
                    rintro en w3 ⟨rfl, rfl⟩
                    go_wp2_with fail
                    refine (HAtoi.out w2 HG.out).mono ?_
                    rintro en w3 ⟨⟨i', er, rfl, hcase⟩, hb⟩
                    have hci : i' = i ∧ er = .nilIface := by
                      rcases hcase with ⟨h, h2⟩ | ⟨h, _⟩
                      · injection h with h
                        exact ⟨h.symm, h2⟩
                      · cases h
                    clear hcase
                    obtain ⟨hci1, rfl⟩ := hci
                    obtain rfl := hci1.symm
                    replace HB := Lib.hid (below_then' HB.out hb)
                    replace HR := Lib.hid (blk_below HR.out hb)
                    replace HG := Lib.hid (HG.out.below hb)
                    replace HC := Lib.hid (Kd.C_below HC.out hb)
                    clear hb
                    go_wp2_with fail
                    refine (HIs.out w3 HG.out).mono ?_
                    rintro en w4 ⟨rfl, hb⟩
                    replace HB := Lib.hid (below_then' HB.out hb)
                    replace HR := Lib.hid (blk_below HR.out hb)
                    replace HG := Lib.hid (HG.out.below hb)
                    replace HC := Lib.hid (Kd.C_below HC.out hb)
                    clear hb
                    have j0 : w4.cell? ⟨w.heap.size, 0, none⟩ = some (.bool false) := blk_cell HR.out 0
                    have j3 : w4.cell? ⟨w.heap.size, 3, none⟩ = some (.slice A l.length c) := blk_cell HR.out 3
                    obtain ⟨ad, rfl, c0, c1, c2, c3⟩ := at_T39 HC.out i h0 h1
                    clear c0 c2 c3
                    go_wp2_with fail
                    refine (HI.out w4).mono ?_
                    rintro en w' ⟨rfl, rfl⟩
                    go_wp2_with fail
                    go_ret2
                    exact ⟨rfl, HB.out⟩
                  | true =>
                    rw [if_pos rfl]
                    have hil := Lib.itoa_length_le i (by omega) (by omega)
                    rw [← size_mk] at hil
                    have HIa := Lib.hid (fun w1 h => HItoa.out i w1 h (by omega) (by omega))
                    have HJ := Lib.hid (str_join attB (Lib.itoa i))
                    obtain ⟨ib, hib2⟩ : ∃ ib : ByteArray, (⟨(Lib.itoa i).toArray⟩ : ByteArray) = ib := ⟨_, rfl⟩
                    rw [hib2] at hil HIa HJ
                    clear hib2
                    go_enter Tryz.func24, Tryz.ntmps24
                    go_wp2_with fail
                    rw [HW0.out]
                    refine (HCl.out).mono ?_
                    rintro en w1 ⟨rfl, hb⟩
                    replace HB := Lib.hid (below_then' HB.out hb)
                    replace HR := Lib.hid (blk_below HR.out hb)
                    replace HG := Lib.hid (HG.out.below hb)
                    replace HC := Lib.hid (Kd.C_below HC.out hb)
                    clear hb
                    go_wp2_with fail
                    refine (HKi.out w1 HG.out).mono ?_
                    rintro en w2 ⟨rfl, hb⟩
                    replace HB := Lib.hid (below_then' HB.out hb)
                    replace HR := Lib.hid (blk_below HR.out hb)
                    replace HG := Lib.hid (HG.out.below hb)
                    replace HC := Lib.hid (Kd.C_below HC.out hb)
                    clear hb
                    have j0 : w2.cell? ⟨w.heap.size, 0, none⟩ = some (.bool false) := blk_cell HR.out 0
                    have j3 : w2.cell? ⟨w.heap.size, 3, none⟩ = some (.slice A l.length c) := blk_cell HR.out 3
                    go_wp2_with fail
                    refine (HPre.out w2).mono ?_
                    rintro en w3 ⟨rfl, rfl⟩
                    go_wp2_with fail
                    refine (HAtoi.out w2 HG.out).mono ?_
                    rintro en w3 ⟨⟨i', er, rfl, hcase⟩, hb⟩
                    have hci : i' = i ∧ er = .nilIface := by
                      rcases hcase with ⟨h, h2⟩ | ⟨h, _⟩
                      · injection h with h
                        exact ⟨h.symm, h2⟩
                      · cases h
                    clear hcase
                    obtain ⟨hci1, rfl⟩ := hci
                    obtain rfl := hci1.symm
                    replace HB := Lib.hid (below_then' HB.out hb)
                    replace HR := Lib.hid (blk_below HR.out hb)
                    replace HG := Lib.hid (HG.out.below hb)
                    replace HC := Lib.hid (Kd.C_below HC.out hb)
                    clear hb
                    go_wp2_with fail
                    refine (HIs.out w3 HG.out).mono ?_
                    rintro en w4 ⟨rfl, hb⟩
                    replace HB := Lib.hid (below_then' HB.out hb)
                    replace HR := Lib.hid (blk_below HR.out hb)
                    replace HG := Lib.hid (HG.out.below hb)
                    replace HC := Lib.hid (Kd.C_below HC.out hb)
                    clear hb
                    have j0 : w4.cell? ⟨w.heap.size, 0, none⟩ = some (.bool false) := blk_cell HR.out 0
                    have j3 : w4.cell? ⟨w.heap.size, 3, none⟩ = some (.slice A l.length c) := blk_cell HR.out 3
                    obtain ⟨ad, rfl, c0, c1, c2, c3⟩ := at_T39 HC.out i h0 h1
                    clear c0 c2 c3
                    go_wp2_with fail
                    refine (HI.out w4).mono ?_
                    rintro en w' ⟨rfl, rfl⟩
                    go_wp2_with fail
                    refine (HIa.out _ HG.out).mono ?_
                    rintro en w5 ⟨rfl, hb⟩
                    replace HB := Lib.hid (below_then' HB.out hb)
                    replace HR := Lib.hid (blk_below HR.out hb)
                    replace HG := Lib.hid (HG.out.below hb)
                    replace HC := Lib.hid (Kd.C_below HC.out hb)
                    clear hb
                    go_wp2_with fail
                    go_ret2
                    exact ⟨tuple2 HJ.out rfl, HB.out⟩
                · have hG0 : srcG l i = ([], false) := if_neg (fun h => h1 h.2.1)
                  rw [hG0]
                  clear hG0
                  go_enter Tryz.func24, Tryz.ntmps24
                  go_wp2_with fail
                  rw [HW0.out]
                  refine (HCl.out).mono ?_
                  rintro en w1 ⟨rfl, hb⟩
                  replace HB := Lib.hid (below_then' HB.out hb)
                  replace HR := Lib.hid (blk_below HR.out hb)
                  replace HG := Lib.hid (HG.out.below hb)
                  replace HC := Lib.hid (Kd.C_below HC.out hb)
                  clear hb
                  go_wp2_with fail
                  refine (HKi.out w1 HG.out).mono ?_
                  rintro en w2 ⟨rfl, hb⟩
                  replace HB := Lib.hid (below_then' HB.out hb)
                  replace HR := Lib.hid (blk_below HR.out hb)
                  replace HG := Lib.hid (HG.out.below hb)
                  replace HC := Lib.hid (Kd.C_below HC.out hb)
                  clear hb
                  have j0 : w2.cell? ⟨w.heap.size, 0, none⟩ = some (.bool false) := blk_cell HR.out 0
                  have j3 : w2.cell? ⟨w.heap.size, 3, none⟩ = some (.slice A l.length c) := blk_cell HR.out 3
                  go_wp2_with fail
                  refine (HPre.out w2).mono ?_
                  rintro en w3 ⟨rfl, rfl⟩
                  go_wp2_with fail
                  refine (HAtoi.out w2 HG.out).mono ?_
                  rintro en w3 ⟨⟨i', er, rfl, hcase⟩, hb⟩
                  have hci : i' = i ∧ er = .nilIface := by
                    rcases hcase with ⟨h, h2⟩ | ⟨h, _⟩
                    · injection h with h
                      exact ⟨h.symm, h2⟩
                    · cases h
                  clear hcase
                  obtain ⟨hci1, rfl⟩ := hci
                  obtain rfl := hci1.symm
                  replace HB := Lib.hid (below_then' HB.out hb)
                  replace HR := Lib.hid (blk_below HR.out hb)
                  replace HG := Lib.hid (HG.out.below hb)
                  replace HC := Lib.hid (Kd.C_below HC.out hb)
                  clear hb
                  go_wp2_with fail
                  refine (HIs.out w3 HG.out).mono ?_
                  rintro en w4 ⟨rfl, hb⟩
                  replace HB := Lib.hid (below_then' HB.out hb)
                  replace HR := Lib.hid (blk_below HR.out hb)
                  replace HG := Lib.hid (HG.out.below hb)
                  replace HC := Lib.hid (Kd.C_below HC.out hb)
                  clear hb
                  have j0 : w4.cell? ⟨w.heap.size, 0, none⟩ = some (.bool false) := blk_cell HR.out 0
                  have j3 : w4.cell? ⟨w.heap.size, 3, none⟩ = some (.slice A l.length c) := blk_cell HR.out 3
                  go_wp2_with fail
                  go_ret2
                  exact ⟨rfl, HB.out⟩
              · have hG0 : srcG l i = ([], false) := if_neg (fun h => h0 h.1)
                rw [hG0]
                clear hG0
                go_enter Tryz.func24, Tryz.ntmps24
                go_wp2_with fail
                rw [HW0.out]
                refine (HCl.out).mono ?_
                rintro en w1 ⟨rfl, hb⟩
                replace HB := Lib.hid (below_then' HB.out hb)
                replace HR := Lib.hid (blk_below HR.out hb)
                replace HG := Lib.hid (HG.out.below hb)
                replace HC := Lib.hid (Kd.C_below HC.out hb)
                clear hb
                go_wp2_with fail
                refine (HKi.out w1 HG.out).mono ?_
                rintro en w2 ⟨rfl, hb⟩
                replace HB := Lib.hid (below_then' HB.out hb)
                replace HR := Lib.hid (blk_below HR.out hb)
                replace HG := Lib.hid (HG.out.below hb)
                replace HC := Lib.hid (Kd.C_below HC.out hb)
                clear hb
                have j0 : w2.cell? ⟨w.heap.size, 0, none⟩ = some (.bool false) := blk_cell HR.out 0
                have j3 : w2.cell? ⟨w.heap.size, 3, none⟩ = some (.slice A l.length c) := blk_cell HR.out 3
                go_wp2_with fail
                refine (HPre.out w2).mono ?_
                rintro en w3 ⟨rfl, rfl⟩
                go_wp2_with fail
                refine (HAtoi.out w2 HG.out).mono ?_
                rintro en w3 ⟨⟨i', er, rfl, hcase⟩, hb⟩
                have hci : i' = i ∧ er = .nilIface := by
                  rcases hcase with ⟨h, h2⟩ | ⟨h, _⟩
                  · injection h with h
                    exact ⟨h.symm, h2⟩
                  · cases h
                clear hcase
                obtain ⟨hci1, rfl⟩ := hci
                obtain rfl := hci1.symm
                replace HB := Lib.hid (below_then' HB.out hb)
                replace HR := Lib.hid (blk_below HR.out hb)
                replace HG := Lib.hid (HG.out.below hb)
                replace HC := Lib.hid (Kd.C_below HC.out hb)
                clear hb
                go_wp2_with fail
                refine (HIs.out w3 HG.out).mono ?_
                rintro en w4 ⟨rfl, hb⟩
                replace HB := Lib.hid (below_then' HB.out hb)
                replace HR := Lib.hid (blk_below HR.out hb)
                replace HG := Lib.hid (HG.out.below hb)
                replace HC := Lib.hid (Kd.C_below HC.out hb)
                clear hb
                have j0 : w4.cell? ⟨w.heap.size, 0, none⟩ = some (.bool false) := blk_cell HR.out 0
                have j3 : w4.cell? ⟨w.heap.size, 3, none⟩ = some (.slice A l.length c) := blk_cell HR.out 3
                go_wp2_with fail
                go_ret2
                exact ⟨rfl, HB.out⟩
            · have hd : (cb.toList == ((⟨#[97, 116, 116, 58]⟩ : ByteArray) ++ tb).toList) = false := by rw [htl, ByteArray.toList_eq]; simpa using he
              have hG0 : srcG l (-1) = ([], false) := if_neg (fun h => absurd h.1 (by decide))
              rw [HEq.out.2 he, hG0]
              clear he htl HEq hG0
              go_enter Tryz.func24, Tryz.ntmps24
              go_wp2_with fail
              rw [HW0.out]
              refine (HCl.out).mono ?_
              rintro en w1 ⟨rfl, hb⟩
              replace HB := Lib.hid (below_then' HB.out hb)
              replace HR := Lib.hid (blk_below HR.out hb)
              replace HG := Lib.hid (HG.out.below hb)
              replace HC := Lib.hid (Kd.C_below HC.out hb)
              clear hb
              go_wp2_with fail
              refine (HKi.out w1 HG.out).mono ?_
              rintro en w2 ⟨rfl, hb⟩
              replace HB := Lib.hid (below_then' HB.out hb)
              replace HR := Lib.hid (blk_below HR.out hb)
              replace HG := Lib.hid (HG.out.below hb)
              replace HC := Lib.hid (Kd.C_below HC.out hb)
              clear hb
              have j0 : w2.cell? ⟨w.heap.size, 0, none⟩ = some (.bool false) := blk_cell HR.out 0
              have j3 : w2.cell? ⟨w.heap.size, 3, none⟩ = some (.slice A l.length c) := blk_cell HR.out 3
              go_wp2_with fail
              refine (HPre.out w2).mono ?_
              rintro en w3 ⟨rfl, rfl⟩
              go_wp2_with fail
              refine (HAtoi.out w2 HG.out).mono ?_
              rintro en w3 ⟨⟨i', er, rfl, hcase⟩, hb⟩
              have hci : i' = i ∧ er = .nilIface := by
                rcases hcase with ⟨h, h2⟩ | ⟨h, _⟩
                · injection h with h
                  exact ⟨h.symm, h2⟩
                · cases h
              clear hcase
              obtain ⟨hci1, rfl⟩ := hci
              obtain rfl := hci1.symm
              replace HB := Lib.hid (below_then' HB.out hb)
              replace HR := Lib.hid (blk_below HR.out hb)
              replace HG := Lib.hid (HG.out.below hb)
              replace HC := Lib.hid (Kd.C_below HC.out hb)
              clear hb
              go_wp2_with fail
              refine (HIs.out w3 HG.out).mono ?_
              rintro en w4 ⟨rfl, hb⟩
              replace HB := Lib.hid (below_then' HB.out hb)
              replace HR := Lib.hid (blk_below HR.out hb)
              replace HG := Lib.hid (HG.out.below hb)
              replace HC := Lib.hid (Kd.C_below HC.out hb)
              clear hb
              have j0 : w4.cell? ⟨w.heap.size, 0, none⟩ = some (.bool false) := blk_cell HR.out 0
              have j3 : w4.cell? ⟨w.heap.size, 3, none⟩ = some (.slice A l.length c) := blk_cell HR.out 3
              go_wp2_with fail
              go_ret2
              exact ⟨rfl, HB.out⟩
        · have hk2b : (k == 2) = false := by simp [hk2]
          have hk4b : (k == 4) = false := by simp [hk4]
          clear HK2 hk2 hk4
          rw [if_pos rfl]
          have hs4 := hsz rfl
          clear hsz
          have hx : (cb.extract 4 cb.size).data.toList = cb.data.toList.drop 4 := extract_drop cb 4
          have hxs : (cb.extract 4 cb.size).size < 4294967281 := by rw [Lib.size_eq, hx, List.length_drop, ← Lib.size_eq]; omega
          replace HAtoi := Lib.hid (fun w1 h => HAtoi.out (cb.extract 4 cb.size) w1 h hxs)
          rw [hx] at HAtoi
          cases ha : atoiF (cb.data.toList.drop 4) with
          | none =>
            have hn : attN cb.data.toList = -1 := by unfold attN; rw [ha]
            have hG0 : srcG l (-1) = ([], false) := if_neg (fun h => absurd h.1 (by decide))
            rw [hn, hG0]
            rw [ha] at HAtoi
            clear hn hG0 hx hxs ha
            go_enter Tryz.func24, Tryz.ntmps24
            go_wp2_with fail
            rw [HW0.out]
            refine (HCl.out).mono ?_
            rintro en w1 ⟨rfl, hb⟩
            replace HB := Lib.hid (below_then' HB.out hb)
            replace HR := Lib.hid (blk_below HR.out hb)
            replace HG := Lib.hid (HG.out.below hb)
            replace HC := Lib.hid (Kd.C_below HC.out hb)
            clear hb
            go_wp2_with fail
            refine (HKi.out w1 HG.out).mono ?_
            rintro en w2 ⟨rfl, hb⟩
            replace HB := Lib.hid (below_then' HB.out hb)
            replace HR := Lib.hid (blk_below HR.out hb)
            replace HG := Lib.hid (HG.out.below hb)
            replace HC := Lib.hid (Kd.C_below HC.out hb)
            clear hb
            have j0 : w2.cell? ⟨w.heap.size, 0, none⟩ = some (.bool b1) := blk_cell HR.out 0
            have j3 : w2.cell? ⟨w.heap.size, 3, none⟩ = some (.slice A l.length c) := blk_cell HR.out 3
            go_wp2_with fail
            refine (HPre.out w2).mono ?_
            rintro en w3 ⟨rfl, rfl⟩
            go_wp2_with fail
            refine (HAtoi.out w2 HG.out).mono ?_
            rintro en w3 ⟨⟨i, er, rfl, hcase⟩, hb⟩
            rcases hcase with ⟨h, _⟩ | ⟨_, t, p, rfl⟩
            · cases h
            replace HB := Lib.hid (below_then' HB.out hb)
            clear hb
            go_wp2_with fail
            go_ret2
            exact ⟨rfl, HB.out⟩
          | some i =>
            have hib := atoiF_bounds ha
            rw [ha] at HAtoi
            have HEq := Lib.hid (show (cb.data.toList = attB ++ Lib.itoa i → attN cb.data.toList = i) ∧ (¬ cb.data.toList = attB ++ Lib.itoa i → attN cb.data.toList = -1) from ⟨fun h => by unfold attN; rw [ha]; exact if_pos h, fun h => by unfold attN; rw [ha]; exact if_neg h⟩)
            clear hx hxs ha
            have HIs := Lib.hid (fun w1 h => HItoa.out i w1 h hib.1 hib.2)
            obtain ⟨tb, htb⟩ : ∃ tb : ByteArray, (⟨(Lib.itoa i).toArray⟩ : ByteArray) = tb := ⟨_, rfl⟩
            have htl : (((⟨#[97, 116, 116, 58]⟩ : ByteArray) ++ tb).toList) = attB ++ Lib.itoa i := by
              rw [← htb, ByteArray.toList_eq]
              simp [ByteArray.data_append, attB]
            have hts : tb.size ≤ 21 := by rw [← htb, size_mk]; exact Lib.itoa_length_le i hib.1 hib.2
            rw [htb] at HIs
            clear htb
            by_cases he : cb.data.toList = attB ++ Lib.itoa i
            · have hd : (cb.toList == ((⟨#[97, 116, 116, 58]⟩ : ByteArray) ++ tb).toList) = true := by rw [htl, ByteArray.toList_eq, he]; simp
              rw [HEq.out.1 he]
              clear he htl HEq
              by_cases h0 : 0 ≤ i
              · by_cases h1 : i < l.length
                · have HI := Lib.hid (fun wx => hasP_any (rd_T39 l i).f1 ⟨#[105, 109, 97, 103, 101, 47]⟩ wx)
                  obtain ⟨q, hq⟩ : ∃ q, Lib.hasPrefix (rd_T39 l i).f1.data.toList (⟨#[105, 109, 97, 103, 101, 47]⟩ : ByteArray).data.toList = q := ⟨_, rfl⟩
                  rw [hq] at HI
                  have hG : srcG l i = if q = true then (attB ++ Lib.itoa i, true) else ([], false) := by
                    rw [← hq]
                    unfold srcG
                    by_cases hh : Lib.hasPrefix (rd_T39 l i).f1.data.toList (⟨#[105, 109, 97, 103, 101, 47]⟩ : ByteArray).data.toList = true
                    · rw [if_pos ⟨h0, h1, hh⟩, if_pos hh]
                    · rw [if_neg (fun h => hh h.2.2), if_neg hh]
                  rw [hG]
                  clear hq hG
                  cases q with
                  | false =>
                    rw [if_neg (by decide)]
                    go_enter Tryz.func24, Tryz.ntmps24
                    go_wp2_with fail
                    rw [HW0.out]
                    refine (HCl.out).mono ?_
                    rintro en w1 ⟨rfl, hb⟩
                    replace HB := Lib.hid (below_then' HB.out hb)
                    replace HR := Lib.hid (blk_below HR.out hb)
                    replace HG := Lib.hid (HG.out.below hb)
                    replace HC := Lib.hid (Kd.C_below HC.out hb)
                    clear hb
                    go_wp2_with fail
                    refine (HKi.out w1 HG.out).mono ?_
                    rintro en w2 ⟨rfl, hb⟩
                    replace HB := Lib.hid (below_then' HB.out hb)
                    replace HR := Lib.hid (blk_below HR.out hb)
                    replace HG := Lib.hid (HG.out.below hb)
                    replace HC := Lib.hid (Kd.C_below HC.out hb)
                    clear hb
                    have j0 : w2.cell? ⟨w.heap.size, 0, none⟩ = some (.bool b1) := blk_cell HR.out 0
                    have j3 : w2.cell? ⟨w.heap.size, 3, none⟩ = some (.slice A l.length c) := blk_cell HR.out 3
                    go_wp2_with fail
                    refine (HPre.out w2).mono ?_
                    rintro en w3 ⟨rfl, rfl⟩
                    go_wp2_with fail
                    refine (HAtoi.out w2 HG.out).mono ?_
                    rintro en w3 ⟨⟨i', er, rfl, hcase⟩, hb⟩
                    have hci : i' = i ∧ er = .nilIface := by
                      rcases hcase with ⟨h, h2⟩ | ⟨h, _⟩
                      · injection h with h
                        exact ⟨h.symm, h2⟩
                      · cases h
                    clear hcase
                    obtain ⟨hci1, rfl⟩ := hci
                    obtain rfl := hci1.symm
                    replace HB := Lib.hid (below_then' HB.out hb)
                    replace HR := Lib.hid (blk_below HR.out hb)
                    replace HG := Lib.hid (HG.out.below hb)
                    replace HC := Lib.hid (Kd.C_below HC.out hb)
                    clear hb
                    go_wp2_with fail
                    refine (HIs.out w3 HG.out).mono ?_
                    rintro en w4 ⟨rfl, hb⟩
                    replace HB := Lib.hid (below_then' HB.out hb)
                    replace HR := Lib.hid (blk_below HR.out hb)
                    replace HG := Lib.hid (HG.out.below hb)
                    replace HC := Lib.hid (Kd.C_below HC.out hb)
                    clear hb
                    have j0 : w4.cell? ⟨w.heap.size, 0, none⟩ = some (.bool b1) := blk_cell HR.out 0
                    have j3 : w4.cell? ⟨w.heap.size, 3, none⟩ = some (.slice A l.length c) := blk_cell HR.out 3
                    obtain ⟨ad, rfl, c0, c1, c2, c3⟩ := at_T39 HC.out i h0 h1
                    clear c0 c2 c3
                    go_wp2_with fail
                    refine (HI.out w4).mono ?_
                    rintro en w' ⟨rfl, rfl⟩
                    go_wp2_with fail
                    go_ret2
                    exact ⟨rfl, HB.out⟩
                  | true =>
                    rw [if_pos rfl]
                    have hil := Lib.itoa_length_le i (by omega) (by omega)
                    rw [← size_mk] at hil
                    have HIa := Lib.hid (fun w1 h => HItoa.out i w1 h (by omega) (by omega))
                    have HJ := Lib.hid (str_join attB (Lib.itoa i))
                    obtain ⟨ib, hib2⟩ : ∃ ib : ByteArray, (⟨(Lib.itoa i).toArray⟩ : ByteArray) = ib := ⟨_, rfl⟩
                    rw [hib2] at hil HIa HJ
                    clear hib2
                    go_enter Tryz.func24, Tryz.ntmps24
                    go_wp2_with fail
                    rw [HW0.out]
                    refine (HCl.out).mono ?_
                    rintro en w1 ⟨rfl, hb⟩
                    replace HB := Lib.hid (below_then' HB.out hb)
                    replace HR := Lib.hid (blk_below HR.out hb)
                    replace HG := Lib.hid (HG.out.below hb)
                    replace HC := Lib.hid (Kd.C_below HC.out hb)
                    clear hb
                    go_wp2_with fail
                    refine (HKi.out w1 HG.out).mono ?_
                    rintro en w2 ⟨rfl, hb⟩
                    replace HB := Lib.hid (below_then' HB.out hb)
                    replace HR := Lib.hid (blk_below HR.out hb)
                    replace HG := Lib.hid (HG.out.below hb)
                    replace HC := Lib.hid (Kd.C_below HC.out hb)
                    clear hb
                    have j0 : w2.cell? ⟨w.heap.size, 0, none⟩ = some (.bool b1) := blk_cell HR.out 0
                    have j3 : w2.cell? ⟨w.heap.size, 3, none⟩ = some (.slice A l.length c) := blk_cell HR.out 3
                    go_wp2_with fail
                    refine (HPre.out w2).mono ?_
                    rintro en w3 ⟨rfl, rfl⟩
                    go_wp2_with fail
                    refine (HAtoi.out w2 HG.out).mono ?_
                    rintro en w3 ⟨⟨i', er, rfl, hcase⟩, hb⟩
                    have hci : i' = i ∧ er = .nilIface := by
                      rcases hcase with ⟨h, h2⟩ | ⟨h, _⟩
                      · injection h with h
                        exact ⟨h.symm, h2⟩
                      · cases h
                    clear hcase
                    obtain ⟨hci1, rfl⟩ := hci
                    obtain rfl := hci1.symm
                    replace HB := Lib.hid (below_then' HB.out hb)
                    replace HR := Lib.hid (blk_below HR.out hb)
                    replace HG := Lib.hid (HG.out.below hb)
                    replace HC := Lib.hid (Kd.C_below HC.out hb)
                    clear hb
                    go_wp2_with fail
                    refine (HIs.out w3 HG.out).mono ?_
                    rintro en w4 ⟨rfl, hb⟩
                    replace HB := Lib.hid (below_then' HB.out hb)
                    replace HR := Lib.hid (blk_below HR.out hb)
                    replace HG := Lib.hid (HG.out.below hb)
                    replace HC := Lib.hid (Kd.C_below HC.out hb)
                    clear hb
                    have j0 : w4.cell? ⟨w.heap.size, 0, none⟩ = some (.bool b1) := blk_cell HR.out 0
                    have j3 : w4.cell? ⟨w.heap.size, 3, none⟩ = some (.slice A l.length c) := blk_cell HR.out 3
                    obtain ⟨ad, rfl, c0, c1, c2, c3⟩ := at_T39 HC.out i h0 h1
                    clear c0 c2 c3
                    go_wp2_with fail
                    refine (HI.out w4).mono ?_
                    rintro en w' ⟨rfl, rfl⟩
                    go_wp2_with fail
                    refine (HIa.out _ HG.out).mono ?_
                    rintro en w5 ⟨rfl, hb⟩
                    replace HB := Lib.hid (below_then' HB.out hb)
                    replace HR := Lib.hid (blk_below HR.out hb)
                    replace HG := Lib.hid (HG.out.below hb)
                    replace HC := Lib.hid (Kd.C_below HC.out hb)
                    clear hb
                    go_wp2_with fail
                    go_ret2
                    exact ⟨tuple2 HJ.out rfl, HB.out⟩
                · have hG0 : srcG l i = ([], false) := if_neg (fun h => h1 h.2.1)
                  rw [hG0]
                  clear hG0
                  go_enter Tryz.func24, Tryz.ntmps24
                  go_wp2_with fail
                  rw [HW0.out]
                  refine (HCl.out).mono ?_
                  rintro en w1 ⟨rfl, hb⟩
                  replace HB := Lib.hid (below_then' HB.out hb)
                  replace HR := Lib.hid (blk_below HR.out hb)
                  replace HG := Lib.hid (HG.out.below hb)
                  replace HC := Lib.hid (Kd.C_below HC.out hb)
                  clear hb
                  go_wp2_with fail
                  refine (HKi.out w1 HG.out).mono ?_
                  rintro en w2 ⟨rfl, hb⟩
                  replace HB := Lib.hid (below_then' HB.out hb)
                  replace HR := Lib.hid (blk_below HR.out hb)
                  replace HG := Lib.hid (HG.out.below hb)
                  replace HC := Lib.hid (Kd.C_below HC.out hb)
                  clear hb
                  have j0 : w2.cell? ⟨w.heap.size, 0, none⟩ = some (.bool b1) := blk_cell HR.out 0
                  have j3 : w2.cell? ⟨w.heap.size, 3, none⟩ = some (.slice A l.length c) := blk_cell HR.out 3
                  go_wp2_with fail
                  refine (HPre.out w2).mono ?_
                  rintro en w3 ⟨rfl, rfl⟩
                  go_wp2_with fail
                  refine (HAtoi.out w2 HG.out).mono ?_
                  rintro en w3 ⟨⟨i', er, rfl, hcase⟩, hb⟩
                  have hci : i' = i ∧ er = .nilIface := by
                    rcases hcase with ⟨h, h2⟩ | ⟨h, _⟩
                    · injection h with h
                      exact ⟨h.symm, h2⟩
                    · cases h
                  clear hcase
                  obtain ⟨hci1, rfl⟩ := hci
                  obtain rfl := hci1.symm
                  replace HB := Lib.hid (below_then' HB.out hb)
                  replace HR := Lib.hid (blk_below HR.out hb)
                  replace HG := Lib.hid (HG.out.below hb)
                  replace HC := Lib.hid (Kd.C_below HC.out hb)
                  clear hb
                  go_wp2_with fail
                  refine (HIs.out w3 HG.out).mono ?_
                  rintro en w4 ⟨rfl, hb⟩
                  replace HB := Lib.hid (below_then' HB.out hb)
                  replace HR := Lib.hid (blk_below HR.out hb)
                  replace HG := Lib.hid (HG.out.below hb)
                  replace HC := Lib.hid (Kd.C_below HC.out hb)
                  clear hb
                  have j0 : w4.cell? ⟨w.heap.size, 0, none⟩ = some (.bool b1) := blk_cell HR.out 0
                  have j3 : w4.cell? ⟨w.heap.size, 3, none⟩ = some (.slice A l.length c) := blk_cell HR.out 3
                  go_wp2_with fail
                  go_ret2
                  exact ⟨rfl, HB.out⟩
              · have hG0 : srcG l i = ([], false) := if_neg (fun h => h0 h.1)
                rw [hG0]
                clear hG0
                go_enter Tryz.func24, Tryz.ntmps24
                go_wp2_with fail
                rw [HW0.out]
                refine (HCl.out).mono ?_
                rintro en w1 ⟨rfl, hb⟩
                replace HB := Lib.hid (below_then' HB.out hb)
                replace HR := Lib.hid (blk_below HR.out hb)
                replace HG := Lib.hid (HG.out.below hb)
                replace HC := Lib.hid (Kd.C_below HC.out hb)
                clear hb
                go_wp2_with fail
                refine (HKi.out w1 HG.out).mono ?_
                rintro en w2 ⟨rfl, hb⟩
                replace HB := Lib.hid (below_then' HB.out hb)
                replace HR := Lib.hid (blk_below HR.out hb)
                replace HG := Lib.hid (HG.out.below hb)
                replace HC := Lib.hid (Kd.C_below HC.out hb)
                clear hb
                have j0 : w2.cell? ⟨w.heap.size, 0, none⟩ = some (.bool b1) := blk_cell HR.out 0
                have j3 : w2.cell? ⟨w.heap.size, 3, none⟩ = some (.slice A l.length c) := blk_cell HR.out 3
                go_wp2_with fail
                refine (HPre.out w2).mono ?_
                rintro en w3 ⟨rfl, rfl⟩
                go_wp2_with fail
                refine (HAtoi.out w2 HG.out).mono ?_
                rintro en w3 ⟨⟨i', er, rfl, hcase⟩, hb⟩
                have hci : i' = i ∧ er = .nilIface := by
                  rcases hcase with ⟨h, h2⟩ | ⟨h, _⟩
                  · injection h with h
                    exact ⟨h.symm, h2⟩
                  · cases h
                clear hcase
                obtain ⟨hci1, rfl⟩ := hci
                obtain rfl := hci1.symm
                replace HB := Lib.hid (below_then' HB.out hb)
                replace HR := Lib.hid (blk_below HR.out hb)
                replace HG := Lib.hid (HG.out.below hb)
                replace HC := Lib.hid (Kd.C_below HC.out hb)
                clear hb
                go_wp2_with fail
                refine (HIs.out w3 HG.out).mono ?_
                rintro en w4 ⟨rfl, hb⟩
                replace HB := Lib.hid (below_then' HB.out hb)
                replace HR := Lib.hid (blk_below HR.out hb)
                replace HG := Lib.hid (HG.out.below hb)
                replace HC := Lib.hid (Kd.C_below HC.out hb)
                clear hb
                have j0 : w4.cell? ⟨w.heap.size, 0, none⟩ = some (.bool b1) := blk_cell HR.out 0
                have j3 : w4.cell? ⟨w.heap.size, 3, none⟩ = some (.slice A l.length c) := blk_cell HR.out 3
                go_wp2_with fail
                go_ret2
                exact ⟨rfl, HB.out⟩
            · have hd : (cb.toList == ((⟨#[97, 116, 116, 58]⟩ : ByteArray) ++ tb).toList) = false := by rw [htl, ByteArray.toList_eq]; simpa using he
              have hG0 : srcG l (-1) = ([], false) := if_neg (fun h => absurd h.1 (by decide))
              rw [HEq.out.2 he, hG0]
              clear he htl HEq hG0
              go_enter Tryz.func24, Tryz.ntmps24
              go_wp2_with fail
              rw [HW0.out]
              refine (HCl.out).mono ?_
              rintro en w1 ⟨rfl, hb⟩
              replace HB := Lib.hid (below_then' HB.out hb)
              replace HR := Lib.hid (blk_below HR.out hb)
              replace HG := Lib.hid (HG.out.below hb)
              replace HC := Lib.hid (Kd.C_below HC.out hb)
              clear hb
              go_wp2_with fail
              refine (HKi.out w1 HG.out).mono ?_
              rintro en w2 ⟨rfl, hb⟩
              replace HB := Lib.hid (below_then' HB.out hb)
              replace HR := Lib.hid (blk_below HR.out hb)
              replace HG := Lib.hid (HG.out.below hb)
              replace HC := Lib.hid (Kd.C_below HC.out hb)
              clear hb
              have j0 : w2.cell? ⟨w.heap.size, 0, none⟩ = some (.bool b1) := blk_cell HR.out 0
              have j3 : w2.cell? ⟨w.heap.size, 3, none⟩ = some (.slice A l.length c) := blk_cell HR.out 3
              go_wp2_with fail
              refine (HPre.out w2).mono ?_
              rintro en w3 ⟨rfl, rfl⟩
              go_wp2_with fail
              refine (HAtoi.out w2 HG.out).mono ?_
              rintro en w3 ⟨⟨i', er, rfl, hcase⟩, hb⟩
              have hci : i' = i ∧ er = .nilIface := by
                rcases hcase with ⟨h, h2⟩ | ⟨h, _⟩
                · injection h with h
                  exact ⟨h.symm, h2⟩
                · cases h
              clear hcase
              obtain ⟨hci1, rfl⟩ := hci
              obtain rfl := hci1.symm
              replace HB := Lib.hid (below_then' HB.out hb)
              replace HR := Lib.hid (blk_below HR.out hb)
              replace HG := Lib.hid (HG.out.below hb)
              replace HC := Lib.hid (Kd.C_below HC.out hb)
              clear hb
              go_wp2_with fail
              refine (HIs.out w3 HG.out).mono ?_
              rintro en w4 ⟨rfl, hb⟩
              replace HB := Lib.hid (below_then' HB.out hb)
              replace HR := Lib.hid (blk_below HR.out hb)
              replace HG := Lib.hid (HG.out.below hb)
              replace HC := Lib.hid (Kd.C_below HC.out hb)
              clear hb
              have j0 : w4.cell? ⟨w.heap.size, 0, none⟩ = some (.bool b1) := blk_cell HR.out 0
              have j3 : w4.cell? ⟨w.heap.size, 3, none⟩ = some (.slice A l.length c) := blk_cell HR.out 3
              go_wp2_with fail
              go_ret2
              exact ⟨rfl, HB.out⟩
end Go.Proofs.YtchooidhieaphaaGreatDoor
