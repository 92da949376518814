/- rules.Value by its method table; attach.Find; judge.href and judge.src; the laws' own trial (live) returns true. Condition: texts below 2^32 - 96 bytes. -/
import Derived.Test.YtchooidhieaphaaGreatDoorLinkAll
import Derived.Test.YtchooidhieaphaaGreatDoorR0
import Derived.Lib.AppendIntMem
import Derived.Lib.ItoaLen
set_option linter.unusedVariables false
set_option linter.unusedSimpArgs false
namespace Go.Proofs.YtchooidhieaphaaGreatDoor
open Go.RowKit Go.Proofs.YtchooidhieaphaaGreatDoorW.PrintWords Go.Maps
/-- The attribute's name to the method that judges it. -/
def methNs : List (List UInt8 × Nat) := [([104, 114, 101, 102], 23), ([115, 114, 99], 24), ([115, 116, 121, 108, 101], 25), ([100, 105, 114], 26), ([108, 97, 110, 103], 27), ([116, 105, 116, 108, 101], 28), ([97, 108, 116], 28)]
def methV (J : Value) (m : Nat) : Value := .func (.func m) #[J] #[]
def methL (J : Value) (k : Nat) : List (List UInt8 × Value) := (methNs.take k).map fun p => (p.1, methV J p.2)
def methOf (l : List UInt8) : Nat := methNs.foldl (fun z p => if l = p.1 then p.2 else z) 29
def known (l : List UInt8) : Bool := methNs.any fun p => decide (l = p.1)
theorem lookL_all (J : Value) (l : List UInt8) : ∀ (L : List (List UInt8 × Nat)) (m : Nat), lookL (L.map fun p => (p.1, methV J p.2)) l (methV J m) = methV J (L.foldl (fun z p => if l = p.1 then p.2 else z) m)
  | [], m => rfl
  | p :: L, m => by
    show lookL (L.map fun p => (p.1, methV J p.2)) l (if l = p.1 then methV J p.2 else methV J m) = methV J (L.foldl (fun z p => if l = p.1 then p.2 else z) (if l = p.1 then p.2 else m))
    by_cases e : l = p.1
    · rw [if_pos e, if_pos e]; exact lookL_all J l L _
    · rw [if_neg e, if_neg e]; exact lookL_all J l L _
theorem lookL_map (J : Value) (l : List UInt8) : ∀ (L : List (List UInt8 × Nat)) (m : Nat) (zz : Value),
    (L.any fun p => decide (l = p.1)) = true → lookL (L.map fun p => (p.1, methV J p.2)) l zz = methV J (L.foldl (fun z p => if l = p.1 then p.2 else z) m)
  | [], m, zz => fun h => by simp at h
  | p :: L, m, zz => fun h => by
    show lookL (L.map fun p => (p.1, methV J p.2)) l (if l = p.1 then methV J p.2 else zz) = methV J (L.foldl (fun z p => if l = p.1 then p.2 else z) (if l = p.1 then p.2 else m))
    by_cases e : l = p.1
    · rw [if_pos e, if_pos e]; exact lookL_all J l L _
    · rw [if_neg e, if_neg e]
      refine lookL_map J l L _ _ ?_
      rw [List.any_cons, decide_eq_false e, Bool.false_or] at h
      exact h
theorem look_meth (J z : Value) (l : List UInt8) (h : known l = true) : lookL (methL J 7) l z = methV J (methOf l) := lookL_map J l methNs 29 z h
theorem has_meth (J : Value) (l : List UInt8) : hasL (methL J 7) l = known l := rfl
theorem methOf_no (l : List UInt8) (h : known l = false) : methOf l = 29 := by
  unfold known at h
  unfold methOf
  simp only [methNs, List.any_cons, List.any_nil, Bool.or_false, Bool.or_eq_false_iff, decide_eq_false_iff_not] at h
  simp [methNs, h]
theorem look_none (J z : Value) (l : List UInt8) (h : known l = false) : lookL (methL J 7) l z = z := by
  unfold known at h
  simp only [methNs, List.any_cons, List.any_nil, Bool.or_false, Bool.or_eq_false_iff, decide_eq_false_iff_not] at h
  simp [methL, methNs, lookL, h]
theorem methL_len (J : Value) (k : Nat) : (methL J k).length < maxLen := by
  unfold methL
  rw [List.length_map]
  exact Nat.lt_of_le_of_lt (List.length_take_le' _ _) (by decide)
theorem zero44 (w : World) : (zeroValue 44).run Tryz.prog w = .ok .nilFunc w := by kernel_rfl
set_option maxRecDepth 100000 in
set_option maxHeartbeats 3200000 in
/-- rules.Value where the name stands: what the name's method tells. -/
theorem value_walk (b1 b2 b3 : Bool) (A : Option Addr) (n c : Nat) (e nm v r : ByteArray) (ok : Bool) (m : Nat) (w : World) (hG : Good w) (he : e.size < 4294967281) (hn : nm.size < 4294967281) (h1 : attrF e.data.toList nm.data.toList = true)
    (hm : methOf nm.data.toList = m) (eg : ∀ args w, (callFunc m args).run Tryz.prog w = .ok (.enter m args) w)
    (hM : ∀ w1, Below w.heap.size w w1 → Calls Tryz.prog m #[.agg #[.bool b1, .bool b2, .bool b3, .slice A n c], .string v] w1 fun en w' => en = .returned (.tuple #[.string r, .bool ok]) ∧ Below w1.heap.size w1 w') :
    Calls Tryz.prog 14 #[.agg #[.bool b1, .bool b2, .bool b3], .slice A n c, .string e, .agg #[.string nm, .string v]] w fun en w' => en = .returned (if ok then .tuple #[.string r, .bool true] else .tuple #[.string ⟨#[]⟩, .bool false]) ∧ Below w.heap.size w w' := by
  have HA := Lib.hid (fun w1 (h : Good w1) => attr_any e nm w1 h he hn)
  rw [h1] at HA
  have HG := Lib.hid hG
  clear hG h1
  have HM := Lib.hid hM
  have HK := Lib.hid (key9 hn)
  have Hm := Lib.hid hm
  clear hM hm
  have hmf : ∀ fn first cap w, (Instr.makeFunc fn first cap).run Tryz.prog w = .ok (.func fn first cap) w := fun _ _ _ _ => rfl
  have hmm := @run_makeMap Tryz.prog
  obtain ⟨W0, hW0⟩ : ∃ W0, (w.alloc (Obj.cells #[Value.bool b1, Value.bool b2, Value.bool b3] 26)).alloc (Obj.cells #[Value.string nm, Value.string v] 29) = W0 := ⟨_, rfl⟩
  have hB0 : Below w.heap.size w W0 := hW0 ▸ two_below _ _ _
  have hr1 : W0.heap[w.heap.size]? = some (.cells #[Value.bool b1, Value.bool b2, Value.bool b3] 26 (0, 0)) := by
    rw [← hW0]
    exact blk_alloc (blk_new _ _) _
  have hr2 : W0.heap[w.heap.size + 1]? = some (.cells #[Value.string nm, Value.string v] 29 (0, 0)) := by
    rw [← hW0]
    have := blk_new (w.alloc (Obj.cells #[Value.bool b1, Value.bool b2, Value.bool b3] 26)) (.cells #[Value.string nm, Value.string v] 29 (0, 0))
    rwa [alloc_size] at this
  have HW0 := Lib.hid hW0
  have HB0 := Lib.hid hB0
  have HR1 := Lib.hid hr1
  have HR2 := Lib.hid hr2
  clear hr1 hr2 hB0 hW0
  cases hkn : known nm.data.toList
  · obtain rfl : 29 = m := by rw [← Hm.out]; exact (methOf_no _ hkn).symm
    have HLOOK := Lib.hid (fun (J z : Value) => look_none J z _ hkn)
    have HKN := Lib.hid hkn
    clear hkn Hm eg
    go_enter Tryz.func14, Tryz.ntmps14
    go_wp2_with fail
    rw [HW0.out]
    refine (HA.out W0 (HG.out.below HB0.out)).mono ?_
    rintro en w1 ⟨rfl, hb1⟩
    have HB1 := Lib.hid (below_then' HB0.out hb1)
    have HQ1 := Lib.hid (blk_below HR1.out hb1)
    have HQ2 := Lib.hid (blk_below HR2.out hb1)
    have y0 : w1.cell? ⟨w.heap.size, 0, none⟩ = some (.bool b1) := blk_cell HQ1.out 0
    have y1 : w1.cell? ⟨w.heap.size, 1, none⟩ = some (.bool b2) := blk_cell HQ1.out 1
    have y2 : w1.cell? ⟨w.heap.size, 2, none⟩ = some (.bool b3) := blk_cell HQ1.out 2
    have x0 : w1.cell? ⟨w.heap.size + 1, 0, none⟩ = some (.string nm) := blk_cell HQ2.out 0
    have x1 : w1.cell? ⟨w.heap.size + 1, 1, none⟩ = some (.string v) := blk_cell HQ2.out 1
    clear hb1 HR1 HR2 HW0 HB0 HA
    obtain ⟨J, hJ⟩ : ∃ J, Value.agg #[Value.bool b1, Value.bool b2, Value.bool b3, Value.slice A n c] = J := ⟨_, rfl⟩
    have HJ0 := Lib.hid (show ((w1.alloc (Obj.cells #[Value.bool b1, Value.bool b2, Value.bool b3, Value.slice A n c] 43)).alloc (Obj.map #[] 0)).heap[w1.heap.size]? = some (.cells #[Value.bool b1, Value.bool b2, Value.bool b3, Value.slice A n c] 43 (0, 0)) from blk_alloc (blk_new _ _) _)
    have HD0 := Lib.hid (show Below w1.heap.size w1 ((w1.alloc (Obj.cells #[Value.bool b1, Value.bool b2, Value.bool b3, Value.slice A n c] 43)).alloc (Obj.map #[] 0)) from two_below _ _ _)
    have HO0 := Lib.hid (show ownsL Tryz.prog 9 ((w1.alloc (Obj.cells #[Value.bool b1, Value.bool b2, Value.bool b3, Value.slice A n c] 43)).alloc (Obj.map #[] 0)) (w1.heap.size + 1) (methL (Value.agg #[Value.bool b1, Value.bool b2, Value.bool b3, Value.slice A n c]) 0) from by
      have := ownsL_made (w1.alloc (Obj.cells #[Value.bool b1, Value.bool b2, Value.bool b3, Value.slice A n c] 43)) Tryz.prog 9
      rwa [alloc_size] at this)
    clear hJ
    go_wp2_with (first
      | ((with_reducible refine wpList_insert_L rfl _ _ _ 45 rfl 9 44 law9 Tryz.underlying45 (w1.heap.size + 1) (methL (Value.agg #[Value.bool b1, Value.bool b2, Value.bool b3, Value.slice A n c]) 0) rfl HO0.out (methL_len _ _) (.string ⟨#[104, 114, 101, 102]⟩) (.func (.func 23) #[(Value.agg #[Value.bool b1, Value.bool b2, Value.bool b3, Value.slice A n c])] #[]) [104, 114, 101, 102] rfl rfl (by kernel_rfl) ?_); intro w2 ho hg; have HO1 := Lib.hid (show ownsL Tryz.prog 9 w2 (w1.heap.size + 1) (methL (Value.agg #[Value.bool b1, Value.bool b2, Value.bool b3, Value.slice A n c]) 1) from ho); have HJ1 := Lib.hid (blk_grown HJ0.out hg (by simp)); have HD1 := Lib.hid (HD0.out.grown hg HD0.out.size (by simp)); have j0 : w2.cell? ⟨w1.heap.size, 0, none⟩ = some (.bool b1) := blk_cell HJ1.out 0; have j1 : w2.cell? ⟨w1.heap.size, 1, none⟩ = some (.bool b2) := blk_cell HJ1.out 1; have j2 : w2.cell? ⟨w1.heap.size, 2, none⟩ = some (.bool b3) := blk_cell HJ1.out 2; have j3 : w2.cell? ⟨w1.heap.size, 3, none⟩ = some (.slice A n c) := blk_cell HJ1.out 3; clear ho hg HO0 HJ0 HD0)
      | ((with_reducible refine wpList_insert_L rfl _ _ _ 45 rfl 9 44 law9 Tryz.underlying45 (w1.heap.size + 1) (methL (Value.agg #[Value.bool b1, Value.bool b2, Value.bool b3, Value.slice A n c]) 1) rfl HO1.out (methL_len _ _) (.string ⟨#[115, 114, 99]⟩) (.func (.func 24) #[(Value.agg #[Value.bool b1, Value.bool b2, Value.bool b3, Value.slice A n c])] #[]) [115, 114, 99] rfl rfl (by kernel_rfl) ?_); intro w3 ho hg; have HO2 := Lib.hid (show ownsL Tryz.prog 9 w3 (w1.heap.size + 1) (methL (Value.agg #[Value.bool b1, Value.bool b2, Value.bool b3, Value.slice A n c]) 2) from ho); have HJ2 := Lib.hid (blk_grown HJ1.out hg (by simp)); have HD2 := Lib.hid (HD1.out.grown hg HD1.out.size (by simp)); have j0 : w3.cell? ⟨w1.heap.size, 0, none⟩ = some (.bool b1) := blk_cell HJ2.out 0; have j1 : w3.cell? ⟨w1.heap.size, 1, none⟩ = some (.bool b2) := blk_cell HJ2.out 1; have j2 : w3.cell? ⟨w1.heap.size, 2, none⟩ = some (.bool b3) := blk_cell HJ2.out 2; have j3 : w3.cell? ⟨w1.heap.size, 3, none⟩ = some (.slice A n c) := blk_cell HJ2.out 3; clear ho hg HO1 HJ1 HD1)
      | ((with_reducible refine wpList_insert_L rfl _ _ _ 45 rfl 9 44 law9 Tryz.underlying45 (w1.heap.size + 1) (methL (Value.agg #[Value.bool b1, Value.bool b2, Value.bool b3, Value.slice A n c]) 2) rfl HO2.out (methL_len _ _) (.string ⟨#[115, 116, 121, 108, 101]⟩) (.func (.func 25) #[(Value.agg #[Value.bool b1, Value.bool b2, Value.bool b3, Value.slice A n c])] #[]) [115, 116, 121, 108, 101] rfl rfl (by kernel_rfl) ?_); intro w4 ho hg; have HO3 := Lib.hid (show ownsL Tryz.prog 9 w4 (w1.heap.size + 1) (methL (Value.agg #[Value.bool b1, Value.bool b2, Value.bool b3, Value.slice A n c]) 3) from ho); have HJ3 := Lib.hid (blk_grown HJ2.out hg (by simp)); have HD3 := Lib.hid (HD2.out.grown hg HD2.out.size (by simp)); have j0 : w4.cell? ⟨w1.heap.size, 0, none⟩ = some (.bool b1) := blk_cell HJ3.out 0; have j1 : w4.cell? ⟨w1.heap.size, 1, none⟩ = some (.bool b2) := blk_cell HJ3.out 1; have j2 : w4.cell? ⟨w1.heap.size, 2, none⟩ = some (.bool b3) := blk_cell HJ3.out 2; have j3 : w4.cell? ⟨w1.heap.size, 3, none⟩ = some (.slice A n c) := blk_cell HJ3.out 3; clear ho hg HO2 HJ2 HD2)
      | ((with_reducible refine wpList_insert_L rfl _ _ _ 45 rfl 9 44 law9 Tryz.underlying45 (w1.heap.size + 1) (methL (Value.agg #[Value.bool b1, Value.bool b2, Value.bool b3, Value.slice A n c]) 3) rfl HO3.out (methL_len _ _) (.string ⟨#[100, 105, 114]⟩) (.func (.func 26) #[(Value.agg #[Value.bool b1, Value.bool b2, Value.bool b3, Value.slice A n c])] #[]) [100, 105, 114] rfl rfl (by kernel_rfl) ?_); intro w5 ho hg; have HO4 := Lib.hid (show ownsL Tryz.prog 9 w5 (w1.heap.size + 1) (methL (Value.agg #[Value.bool b1, Value.bool b2, Value.bool b3, Value.slice A n c]) 4) from ho); have HJ4 := Lib.hid (blk_grown HJ3.out hg (by simp)); have HD4 := Lib.hid (HD3.out.grown hg HD3.out.size (by simp)); have j0 : w5.cell? ⟨w1.heap.size, 0, none⟩ = some (.bool b1) := blk_cell HJ4.out 0; have j1 : w5.cell? ⟨w1.heap.size, 1, none⟩ = some (.bool b2) := blk_cell HJ4.out 1; have j2 : w5.cell? ⟨w1.heap.size, 2, none⟩ = some (.bool b3) := blk_cell HJ4.out 2; have j3 : w5.cell? ⟨w1.heap.size, 3, none⟩ = some (.slice A n c) := blk_cell HJ4.out 3; clear ho hg HO3 HJ3 HD3)
      | ((with_reducible refine wpList_insert_L rfl _ _ _ 45 rfl 9 44 law9 Tryz.underlying45 (w1.heap.size + 1) (methL (Value.agg #[Value.bool b1, Value.bool b2, Value.bool b3, Value.slice A n c]) 4) rfl HO4.out (methL_len _ _) (.string ⟨#[108, 97, 110, 103]⟩) (.func (.func 27) #[(Value.agg #[Value.bool b1, Value.bool b2, Value.bool b3, Value.slice A n c])] #[]) [108, 97, 110, 103] rfl rfl (by kernel_rfl) ?_); intro w6 ho hg; have HO5 := Lib.hid (show ownsL Tryz.prog 9 w6 (w1.heap.size + 1) (methL (Value.agg #[Value.bool b1, Value.bool b2, Value.bool b3, Value.slice A n c]) 5) from ho); have HJ5 := Lib.hid (blk_grown HJ4.out hg (by simp)); have HD5 := Lib.hid (HD4.out.grown hg HD4.out.size (by simp)); have j0 : w6.cell? ⟨w1.heap.size, 0, none⟩ = some (.bool b1) := blk_cell HJ5.out 0; have j1 : w6.cell? ⟨w1.heap.size, 1, none⟩ = some (.bool b2) := blk_cell HJ5.out 1; have j2 : w6.cell? ⟨w1.heap.size, 2, none⟩ = some (.bool b3) := blk_cell HJ5.out 2; have j3 : w6.cell? ⟨w1.heap.size, 3, none⟩ = some (.slice A n c) := blk_cell HJ5.out 3; clear ho hg HO4 HJ4 HD4)
      | ((with_reducible refine wpList_insert_L rfl _ _ _ 45 rfl 9 44 law9 Tryz.underlying45 (w1.heap.size + 1) (methL (Value.agg #[Value.bool b1, Value.bool b2, Value.bool b3, Value.slice A n c]) 5) rfl HO5.out (methL_len _ _) (.string ⟨#[116, 105, 116, 108, 101]⟩) (.func (.func 28) #[(Value.agg #[Value.bool b1, Value.bool b2, Value.bool b3, Value.slice A n c])] #[]) [116, 105, 116, 108, 101] rfl rfl (by kernel_rfl) ?_); intro w7 ho hg; have HO6 := Lib.hid (show ownsL Tryz.prog 9 w7 (w1.heap.size + 1) (methL (Value.agg #[Value.bool b1, Value.bool b2, Value.bool b3, Value.slice A n c]) 6) from ho); have HJ6 := Lib.hid (blk_grown HJ5.out hg (by simp)); have HD6 := Lib.hid (HD5.out.grown hg HD5.out.size (by simp)); have j0 : w7.cell? ⟨w1.heap.size, 0, none⟩ = some (.bool b1) := blk_cell HJ6.out 0; have j1 : w7.cell? ⟨w1.heap.size, 1, none⟩ = some (.bool b2) := blk_cell HJ6.out 1; have j2 : w7.cell? ⟨w1.heap.size, 2, none⟩ = some (.bool b3) := blk_cell HJ6.out 2; have j3 : w7.cell? ⟨w1.heap.size, 3, none⟩ = some (.slice A n c) := blk_cell HJ6.out 3; clear ho hg HO5 HJ5 HD5)
      | ((with_reducible refine wpList_insert_L rfl _ _ _ 45 rfl 9 44 law9 Tryz.underlying45 (w1.heap.size + 1) (methL (Value.agg #[Value.bool b1, Value.bool b2, Value.bool b3, Value.slice A n c]) 6) rfl HO6.out (methL_len _ _) (.string ⟨#[97, 108, 116]⟩) (.func (.func 28) #[(Value.agg #[Value.bool b1, Value.bool b2, Value.bool b3, Value.slice A n c])] #[]) [97, 108, 116] rfl rfl (by kernel_rfl) ?_); intro w8 ho hg; have HO7 := Lib.hid (show ownsL Tryz.prog 9 w8 (w1.heap.size + 1) (methL (Value.agg #[Value.bool b1, Value.bool b2, Value.bool b3, Value.slice A n c]) 7) from ho); have HJ7 := Lib.hid (blk_grown HJ6.out hg (by simp)); have HD7 := Lib.hid (HD6.out.grown hg HD6.out.size (by simp)); have j0 : w8.cell? ⟨w1.heap.size, 0, none⟩ = some (.bool b1) := blk_cell HJ7.out 0; have j1 : w8.cell? ⟨w1.heap.size, 1, none⟩ = some (.bool b2) := blk_cell HJ7.out 1; have j2 : w8.cell? ⟨w1.heap.size, 2, none⟩ = some (.bool b3) := blk_cell HJ7.out 2; have j3 : w8.cell? ⟨w1.heap.size, 3, none⟩ = some (.slice A n c) := blk_cell HJ7.out 3; clear ho hg HO6 HJ6 HD6; have x0' : w8.cell? ⟨w.heap.size + 1, 0, none⟩ = some (.string nm) := cell_later HD7.out x0; have x1' : w8.cell? ⟨w.heap.size + 1, 1, none⟩ = some (.string v) := cell_later HD7.out x1; have hlook : (Instr.lookup 45 (.map (some (w1.heap.size + 1))) (.string nm) true).run Tryz.prog w8 = .ok (.tuple #[.nilFunc, .bool false]) w8 := (by have := ownsL_look_ok HO7.out law9 Tryz.underlying45 (zero44 w8) HK.out; rw [HLOOK.out, has_meth, HKN.out] at this; exact this); clear HO7 HJ7))
    have HB8 := Lib.hid (below_then' HB1.out HD7.out)
    cases ok with
    | true =>
      refine (HM.out w8 HB8.out).mono ?_
      rintro en w9 ⟨rfl, hb9⟩
      have HB9 := Lib.hid (below_then' HB8.out hb9)
      clear hb9
      go_wp2_with fail
      go_ret2
      exact ⟨rfl, HB9.out⟩
    | false =>
      refine (HM.out w8 HB8.out).mono ?_
      rintro en w9 ⟨rfl, hb9⟩
      have HB9 := Lib.hid (below_then' HB8.out hb9)
      clear hb9
      go_wp2_with fail
      go_ret2
      exact ⟨rfl, HB9.out⟩
  · have HLOOK := Lib.hid (fun (J z : Value) => by have := look_meth J z _ hkn; rwa [Hm.out] at this)
    have HKN := Lib.hid hkn
    clear hkn Hm
    go_enter Tryz.func14, Tryz.ntmps14
    go_wp2_with fail
    rw [HW0.out]
    refine (HA.out W0 (HG.out.below HB0.out)).mono ?_
    rintro en w1 ⟨rfl, hb1⟩
    have HB1 := Lib.hid (below_then' HB0.out hb1)
    have HQ1 := Lib.hid (blk_below HR1.out hb1)
    have HQ2 := Lib.hid (blk_below HR2.out hb1)
    have y0 : w1.cell? ⟨w.heap.size, 0, none⟩ = some (.bool b1) := blk_cell HQ1.out 0
    have y1 : w1.cell? ⟨w.heap.size, 1, none⟩ = some (.bool b2) := blk_cell HQ1.out 1
    have y2 : w1.cell? ⟨w.heap.size, 2, none⟩ = some (.bool b3) := blk_cell HQ1.out 2
    have x0 : w1.cell? ⟨w.heap.size + 1, 0, none⟩ = some (.string nm) := blk_cell HQ2.out 0
    have x1 : w1.cell? ⟨w.heap.size + 1, 1, none⟩ = some (.string v) := blk_cell HQ2.out 1
    clear hb1 HR1 HR2 HW0 HB0 HA
    obtain ⟨J, hJ⟩ : ∃ J, Value.agg #[Value.bool b1, Value.bool b2, Value.bool b3, Value.slice A n c] = J := ⟨_, rfl⟩
    have HJ0 := Lib.hid (show ((w1.alloc (Obj.cells #[Value.bool b1, Value.bool b2, Value.bool b3, Value.slice A n c] 43)).alloc (Obj.map #[] 0)).heap[w1.heap.size]? = some (.cells #[Value.bool b1, Value.bool b2, Value.bool b3, Value.slice A n c] 43 (0, 0)) from blk_alloc (blk_new _ _) _)
    have HD0 := Lib.hid (show Below w1.heap.size w1 ((w1.alloc (Obj.cells #[Value.bool b1, Value.bool b2, Value.bool b3, Value.slice A n c] 43)).alloc (Obj.map #[] 0)) from two_below _ _ _)
    have HO0 := Lib.hid (show ownsL Tryz.prog 9 ((w1.alloc (Obj.cells #[Value.bool b1, Value.bool b2, Value.bool b3, Value.slice A n c] 43)).alloc (Obj.map #[] 0)) (w1.heap.size + 1) (methL (Value.agg #[Value.bool b1, Value.bool b2, Value.bool b3, Value.slice A n c]) 0) from by
      have := ownsL_made (w1.alloc (Obj.cells #[Value.bool b1, Value.bool b2, Value.bool b3, Value.slice A n c] 43)) Tryz.prog 9
      rwa [alloc_size] at this)
    clear hJ
    go_wp2_with (first
      | ((with_reducible refine wpList_insert_L rfl _ _ _ 45 rfl 9 44 law9 Tryz.underlying45 (w1.heap.size + 1) (methL (Value.agg #[Value.bool b1, Value.bool b2, Value.bool b3, Value.slice A n c]) 0) rfl HO0.out (methL_len _ _) (.string ⟨#[104, 114, 101, 102]⟩) (.func (.func 23) #[(Value.agg #[Value.bool b1, Value.bool b2, Value.bool b3, Value.slice A n c])] #[]) [104, 114, 101, 102] rfl rfl (by kernel_rfl) ?_); intro w2 ho hg; have HO1 := Lib.hid (show ownsL Tryz.prog 9 w2 (w1.heap.size + 1) (methL (Value.agg #[Value.bool b1, Value.bool b2, Value.bool b3, Value.slice A n c]) 1) from ho); have HJ1 := Lib.hid (blk_grown HJ0.out hg (by simp)); have HD1 := Lib.hid (HD0.out.grown hg HD0.out.size (by simp)); have j0 : w2.cell? ⟨w1.heap.size, 0, none⟩ = some (.bool b1) := blk_cell HJ1.out 0; have j1 : w2.cell? ⟨w1.heap.size, 1, none⟩ = some (.bool b2) := blk_cell HJ1.out 1; have j2 : w2.cell? ⟨w1.heap.size, 2, none⟩ = some (.bool b3) := blk_cell HJ1.out 2; have j3 : w2.cell? ⟨w1.heap.size, 3, none⟩ = some (.slice A n c) := blk_cell HJ1.out 3; clear ho hg HO0 HJ0 HD0)
      | ((with_reducible refine wpList_insert_L rfl _ _ _ 45 rfl 9 44 law9 Tryz.underlying45 (w1.heap.size + 1) (methL (Value.agg #[Value.bool b1, Value.bool b2, Value.bool b3, Value.slice A n c]) 1) rfl HO1.out (methL_len _ _) (.string ⟨#[115, 114, 99]⟩) (.func (.func 24) #[(Value.agg #[Value.bool b1, Value.bool b2, Value.bool b3, Value.slice A n c])] #[]) [115, 114, 99] rfl rfl (by kernel_rfl) ?_); intro w3 ho hg; have HO2 := Lib.hid (show ownsL Tryz.prog 9 w3 (w1.heap.size + 1) (methL (Value.agg #[Value.bool b1, Value.bool b2, Value.bool b3, Value.slice A n c]) 2) from ho); have HJ2 := Lib.hid (blk_grown HJ1.out hg (by simp)); have HD2 := Lib.hid (HD1.out.grown hg HD1.out.size (by simp)); have j0 : w3.cell? ⟨w1.heap.size, 0, none⟩ = some (.bool b1) := blk_cell HJ2.out 0; have j1 : w3.cell? ⟨w1.heap.size, 1, none⟩ = some (.bool b2) := blk_cell HJ2.out 1; have j2 : w3.cell? ⟨w1.heap.size, 2, none⟩ = some (.bool b3) := blk_cell HJ2.out 2; have j3 : w3.cell? ⟨w1.heap.size, 3, none⟩ = some (.slice A n c) := blk_cell HJ2.out 3; clear ho hg HO1 HJ1 HD1)
      | ((with_reducible refine wpList_insert_L rfl _ _ _ 45 rfl 9 44 law9 Tryz.underlying45 (w1.heap.size + 1) (methL (Value.agg #[Value.bool b1, Value.bool b2, Value.bool b3, Value.slice A n c]) 2) rfl HO2.out (methL_len _ _) (.string ⟨#[115, 116, 121, 108, 101]⟩) (.func (.func 25) #[(Value.agg #[Value.bool b1, Value.bool b2, Value.bool b3, Value.slice A n c])] #[]) [115, 116, 121, 108, 101] rfl rfl (by kernel_rfl) ?_); intro w4 ho hg; have HO3 := Lib.hid (show ownsL Tryz.prog 9 w4 (w1.heap.size + 1) (methL (Value.agg #[Value.bool b1, Value.bool b2, Value.bool b3, Value.slice A n c]) 3) from ho); have HJ3 := Lib.hid (blk_grown HJ2.out hg (by simp)); have HD3 := Lib.hid (HD2.out.grown hg HD2.out.size (by simp)); have j0 : w4.cell? ⟨w1.heap.size, 0, none⟩ = some (.bool b1) := blk_cell HJ3.out 0; have j1 : w4.cell? ⟨w1.heap.size, 1, none⟩ = some (.bool b2) := blk_cell HJ3.out 1; have j2 : w4.cell? ⟨w1.heap.size, 2, none⟩ = some (.bool b3) := blk_cell HJ3.out 2; have j3 : w4.cell? ⟨w1.heap.size, 3, none⟩ = some (.slice A n c) := blk_cell HJ3.out 3; clear ho hg HO2 HJ2 HD2)
      | ((with_reducible refine wpList_insert_L rfl _ _ _ 45 rfl 9 44 law9 Tryz.underlying45 (w1.heap.size + 1) (methL (Value.agg #[Value.bool b1, Value.bool b2, Value.bool b3, Value.slice A n c]) 3) rfl HO3.out (methL_len _ _) (.string ⟨#[100, 105, 114]⟩) (.func (.func 26) #[(Value.agg #[Value.bool b1, Value.bool b2, Value.bool b3, Value.slice A n c])] #[]) [100, 105, 114] rfl rfl (by kernel_rfl) ?_); intro w5 ho hg; have HO4 := Lib.hid (show ownsL Tryz.prog 9 w5 (w1.heap.size + 1) (methL (Value.agg #[Value.bool b1, Value.bool b2, Value.bool b3, Value.slice A n c]) 4) from ho); have HJ4 := Lib.hid (blk_grown HJ3.out hg (by simp)); have HD4 := Lib.hid (HD3.out.grown hg HD3.out.size (by simp)); have j0 : w5.cell? ⟨w1.heap.size, 0, none⟩ = some (.bool b1) := blk_cell HJ4.out 0; have j1 : w5.cell? ⟨w1.heap.size, 1, none⟩ = some (.bool b2) := blk_cell HJ4.out 1; have j2 : w5.cell? ⟨w1.heap.size, 2, none⟩ = some (.bool b3) := blk_cell HJ4.out 2; have j3 : w5.cell? ⟨w1.heap.size, 3, none⟩ = some (.slice A n c) := blk_cell HJ4.out 3; clear ho hg HO3 HJ3 HD3)
      | ((with_reducible refine wpList_insert_L rfl _ _ _ 45 rfl 9 44 law9 Tryz.underlying45 (w1.heap.size + 1) (methL (Value.agg #[Value.bool b1, Value.bool b2, Value.bool b3, Value.slice A n c]) 4) rfl HO4.out (methL_len _ _) (.string ⟨#[108, 97, 110, 103]⟩) (.func (.func 27) #[(Value.agg #[Value.bool b1, Value.bool b2, Value.bool b3, Value.slice A n c])] #[]) [108, 97, 110, 103] rfl rfl (by kernel_rfl) ?_); intro w6 ho hg; have HO5 := Lib.hid (show ownsL Tryz.prog 9 w6 (w1.heap.size + 1) (methL (Value.agg #[Value.bool b1, Value.bool b2, Value.bool b3, Value.slice A n c]) 5) from ho); have HJ5 := Lib.hid (blk_grown HJ4.out hg (by simp)); have HD5 := Lib.hid (HD4.out.grown hg HD4.out.size (by simp)); have j0 : w6.cell? ⟨w1.heap.size, 0, none⟩ = some (.bool b1) := blk_cell HJ5.out 0; have j1 : w6.cell? ⟨w1.heap.size, 1, none⟩ = some (.bool b2) := blk_cell HJ5.out 1; have j2 : w6.cell? ⟨w1.heap.size, 2, none⟩ = some (.bool b3) := blk_cell HJ5.out 2; have j3 : w6.cell? ⟨w1.heap.size, 3, none⟩ = some (.slice A n c) := blk_cell HJ5.out 3; clear ho hg HO4 HJ4 HD4)
      | ((with_reducible refine wpList_insert_L rfl _ _ _ 45 rfl 9 44 law9 Tryz.underlying45 (w1.heap.size + 1) (methL (Value.agg #[Value.bool b1, Value.bool b2, Value.bool b3, Value.slice A n c]) 5) rfl HO5.out (methL_len _ _) (.string ⟨#[116, 105, 116, 108, 101]⟩) (.func (.func 28) #[(Value.agg #[Value.bool b1, Value.bool b2, Value.bool b3, Value.slice A n c])] #[]) [116, 105, 116, 108, 101] rfl rfl (by kernel_rfl) ?_); intro w7 ho hg; have HO6 := Lib.hid (show ownsL Tryz.prog 9 w7 (w1.heap.size + 1) (methL (Value.agg #[Value.bool b1, Value.bool b2, Value.bool b3, Value.slice A n c]) 6) from ho); have HJ6 := Lib.hid (blk_grown HJ5.out hg (by simp)); have HD6 := Lib.hid (HD5.out.grown hg HD5.out.size (by simp)); have j0 : w7.cell? ⟨w1.heap.size, 0, none⟩ = some (.bool b1) := blk_cell HJ6.out 0; have j1 : w7.cell? ⟨w1.heap.size, 1, none⟩ = some (.bool b2) := blk_cell HJ6.out 1; have j2 : w7.cell? ⟨w1.heap.size, 2, none⟩ = some (.bool b3) := blk_cell HJ6.out 2; have j3 : w7.cell? ⟨w1.heap.size, 3, none⟩ = some (.slice A n c) := blk_cell HJ6.out 3; clear ho hg HO5 HJ5 HD5)
      | ((with_reducible refine wpList_insert_L rfl _ _ _ 45 rfl 9 44 law9 Tryz.underlying45 (w1.heap.size + 1) (methL (Value.agg #[Value.bool b1, Value.bool b2, Value.bool b3, Value.slice A n c]) 6) rfl HO6.out (methL_len _ _) (.string ⟨#[97, 108, 116]⟩) (.func (.func 28) #[(Value.agg #[Value.bool b1, Value.bool b2, Value.bool b3, Value.slice A n c])] #[]) [97, 108, 116] rfl rfl (by kernel_rfl) ?_); intro w8 ho hg; have HO7 := Lib.hid (show ownsL Tryz.prog 9 w8 (w1.heap.size + 1) (methL (Value.agg #[Value.bool b1, Value.bool b2, Value.bool b3, Value.slice A n c]) 7) from ho); have HJ7 := Lib.hid (blk_grown HJ6.out hg (by simp)); have HD7 := Lib.hid (HD6.out.grown hg HD6.out.size (by simp)); have j0 : w8.cell? ⟨w1.heap.size, 0, none⟩ = some (.bool b1) := blk_cell HJ7.out 0; have j1 : w8.cell? ⟨w1.heap.size, 1, none⟩ = some (.bool b2) := blk_cell HJ7.out 1; have j2 : w8.cell? ⟨w1.heap.size, 2, none⟩ = some (.bool b3) := blk_cell HJ7.out 2; have j3 : w8.cell? ⟨w1.heap.size, 3, none⟩ = some (.slice A n c) := blk_cell HJ7.out 3; clear ho hg HO6 HJ6 HD6; have x0' : w8.cell? ⟨w.heap.size + 1, 0, none⟩ = some (.string nm) := cell_later HD7.out x0; have x1' : w8.cell? ⟨w.heap.size + 1, 1, none⟩ = some (.string v) := cell_later HD7.out x1; have hlook : (Instr.lookup 45 (.map (some (w1.heap.size + 1))) (.string nm) true).run Tryz.prog w8 = .ok (.tuple #[.func (.func m) #[(.agg #[.bool b1, .bool b2, .bool b3, .slice A n c])] #[], .bool true]) w8 := (by have := ownsL_look_ok HO7.out law9 Tryz.underlying45 (zero44 w8) HK.out; rw [HLOOK.out, has_meth, HKN.out] at this; exact this); clear HO7 HJ7))
    have HB8 := Lib.hid (below_then' HB1.out HD7.out)
    cases ok with
    | true =>
      go_at_fn m
      refine (HM.out w8 HB8.out).mono ?_
      rintro en w9 ⟨rfl, hb9⟩
      have HB9 := Lib.hid (below_then' HB8.out hb9)
      clear hb9
      go_wp2_with fail
      go_ret2
      exact ⟨rfl, HB9.out⟩
    | false =>
      go_at_fn m
      refine (HM.out w8 HB8.out).mono ?_
      rintro en w9 ⟨rfl, hb9⟩
      have HB9 := Lib.hid (below_then' HB8.out hb9)
      clear hb9
      go_wp2_with fail
      go_ret2
      exact ⟨rfl, HB9.out⟩
set_option maxRecDepth 100000 in
set_option maxHeartbeats 1600000 in
/-- rules.Value where the name does not stand. -/
theorem value_off (b1 b2 b3 : Bool) (A : Option Addr) (n c : Nat) (e nm v : ByteArray) (w : World) (hG : Good w) (he : e.size < 4294967281) (hn : nm.size < 4294967281) (h1 : attrF e.data.toList nm.data.toList = false) :
    Calls Tryz.prog 14 #[.agg #[.bool b1, .bool b2, .bool b3], .slice A n c, .string e, .agg #[.string nm, .string v]] w fun en w' => en = .returned (.tuple #[.string ⟨#[]⟩, .bool false]) ∧ Below w.heap.size w w' := by
  have HA := Lib.hid (fun w1 (h : Good w1) => attr_any e nm w1 h he hn)
  rw [h1] at HA
  obtain ⟨W0, hW0⟩ : ∃ W0, (w.alloc (Obj.cells #[Value.bool b1, Value.bool b2, Value.bool b3] 26)).alloc (Obj.cells #[Value.string nm, Value.string v] 29) = W0 := ⟨_, rfl⟩
  have hB0 : Below w.heap.size w W0 := hW0 ▸ two_below _ _ _
  have HG := Lib.hid (hG.below hB0)
  have HW0 := Lib.hid hW0
  have HB0 := Lib.hid hB0
  clear hB0 hW0 h1 hG
  go_enter Tryz.func14, Tryz.ntmps14
  go_wp2_with fail
  rw [HW0.out]
  refine (HA.out W0 HG.out).mono ?_
  rintro en w1 ⟨rfl, hb1⟩
  have HB1 := Lib.hid (below_then' HB0.out hb1)
  clear hb1
  go_wp2_with fail
  go_ret2
  exact ⟨rfl, HB1.out⟩
end Go.Proofs.YtchooidhieaphaaGreatDoor
set_option linter.unusedVariables false
set_option linter.unusedSimpArgs false
namespace Go.Proofs.YtchooidhieaphaaGreatDoor
open Go.RowKit Go.Proofs.YtchooidhieaphaaGreatDoorW.PrintWords PRulesValues
/-- Whether this part bears that name. -/
def namedB (id : ByteArray) (x : S39) : Bool := decide (¬ id.data.toList = []) && decide (x.f2.data.toList = id.data.toList)
/-- The place of the first part of that name; -1: none. -/
def findF (l : List S39) (id : ByteArray) : Int := match l.findIdx? (namedB id) with | some i => i | none => -1
set_option maxRecDepth 100000 in
theorem find1_any (x : S39) (id : ByteArray) (b : Nat) (w : World) (hb : w.cell? ⟨b, 0, none⟩ = some (.string id)) (hbl : b < w.heap.size) :
    Calls Tryz.prog 63 #[.agg #[.string x.f0, .string x.f1, .string x.f2, .string x.f3], .pointer (some ⟨b, 0, none⟩)] w fun e w' => e = .returned (.bool (namedB id x)) ∧ Below w.heap.size w w' := by
  have hB : Below w.heap.size w (w.alloc (.cells #[.string x.f0, .string x.f1, .string x.f2, .string x.f3] 39)) := (Below.refl _ _).alloc (Nat.le_refl _) _
  have hc : (w.alloc (.cells #[.string x.f0, .string x.f1, .string x.f2, .string x.f3] 39)).cell? ⟨b, 0, none⟩ = some (.string id) := cell_later hB hb
  have HB := Lib.hid hB
  clear hB
  by_cases h1 : id.data.toList = []
  · have e1 : id.toList = [] := by rw [ByteArray.toList_eq]; exact h1
    have HR := Lib.hid (show namedB id x = false by unfold namedB; simp [h1])
    clear h1
    go_enter Tryz.func63, Tryz.ntmps63
    go_wp2_with fail
    go_ret
    exact ⟨ret_bool HR.out.symm, HB.out⟩
  · have e1 : ¬ id.toList = [] := by rw [ByteArray.toList_eq]; exact h1
    by_cases h2 : x.f2.data.toList = id.data.toList
    · have e2 : x.f2.toList = id.toList := by rw [ByteArray.toList_eq, ByteArray.toList_eq]; exact h2
      have HR := Lib.hid (show namedB id x = true by unfold namedB; simp [h1, h2])
      clear h1 h2
      have e3 : (x.f2.toList == id.toList) = true := by rw [e2]; simp
      go_enter Tryz.func63, Tryz.ntmps63
      go_wp2_with fail
      all_goals
        go_ret
        exact ⟨ret_bool (by rw [HR.out]; try simp [e1, e2]), HB.out⟩
    · have e2 : ¬ x.f2.toList = id.toList := by rw [ByteArray.toList_eq, ByteArray.toList_eq]; exact h2
      have HR := Lib.hid (show namedB id x = false by unfold namedB; simp [h1, h2])
      clear h1 h2
      have e3 : (x.f2.toList == id.toList) = false := by simpa using e2
      go_enter Tryz.func63, Tryz.ntmps63
      go_wp2_with fail
      all_goals
        go_ret
        exact ⟨ret_bool (by rw [HR.out]; try simp [e1, e2]), HB.out⟩
theorem findF_hit (l : List S39) (id : ByteArray) (k : Nat) (x : S39) (hx : l[k]? = some x) (h : namedB id x = true) (hno : ∀ (j : Nat) (y : S39), j < k → l[j]? = some y → namedB id y = false) : findF l id = (k : Int) := by
  obtain ⟨hk, he⟩ := List.getElem?_eq_some_iff.1 hx
  unfold findF
  have : l.findIdx? (namedB id) = some k := by
    rw [List.findIdx?_eq_some_iff_getElem]
    refine ⟨hk, by rw [he]; exact h, fun j hj => ?_⟩
    have := hno j l[j] hj (List.getElem?_eq_getElem (by omega))
    rw [this]; exact Bool.false_ne_true
  rw [this]
theorem findF_miss (l : List S39) (id : ByteArray) (hno : ∀ (j : Nat) (y : S39), l[j]? = some y → namedB id y = false) : findF l id = -1 := by
  unfold findF
  have : l.findIdx? (namedB id) = none := by
    rw [List.findIdx?_eq_none_iff]
    intro x hx
    obtain ⟨j, hj⟩ := List.getElem?_of_mem hx
    exact hno j x hj
  rw [this]
set_option maxRecDepth 100000 in
set_option maxHeartbeats 1600000 in
theorem index_any (A : Option Addr) (c : Nat) (l : List S39) (id : ByteArray) (b : Nat) (w : World) (hC : Kd.C k39 w A l.length l) (hl : l.length < 9223372036854775807) (hb : w.cell? ⟨b, 0, none⟩ = some (.string id)) (hbl : b < w.heap.size) :
    Calls Tryz.prog 62 #[.slice A l.length c, .func (.func 63) #[] #[.pointer (some ⟨b, 0, none⟩)]] w fun e w' => e = .returned (.int .i64 (findF l id)) ∧ Below w.heap.size w w' := by
  have HC := Lib.hid hC
  have HCb := Lib.hid hb
  have HBl := Lib.hid hbl
  clear hC hb hbl
  go_enter Tryz.func62, Tryz.ntmps62
  go_wp2
  go_loopw [8] (fun i wr => Below w.heap.size w wr ∧ ∃ k : Nat, k ≤ l.length ∧ i = .int .i64 (k : Int) ∧ Hid (∀ j y, j < k → l[j]? = some y → namedB id y = false)) (fun i _ => l.length - (intOf i).toNat)
  case atStart => exact ⟨Below.refl _ _, 0, Nat.zero_le _, rfl, Lib.hid (fun j y h => absurd h (Nat.not_lt_zero _))⟩
  case round =>
    obtain ⟨hB, k, hk, rfl, hN⟩ := hrel
    have HB := Lib.hid hB
    have HF := Lib.hid (cell_later hB HCb.out)
    have HFl := Lib.hid (Nat.lt_of_lt_of_le HBl.out hB.size)
    by_cases hlt : k < l.length
    · obtain ⟨x, hx⟩ : ∃ x, l[k]? = some x := ⟨_, List.getElem?_eq_getElem hlt⟩
      obtain ⟨ad, rfl, c0, c1, c2, c3⟩ := at_T39 (Kd.C_below HC.out hB) (k : Int) (by omega) (by omega)
      have hr : rd_T39 l (k : Int) = x := by
        show l.getD (k : Int).toNat z39 = x
        rw [List.getD_eq_getElem?_getD, Int.toNat_natCast, hx]; rfl
      rw [hr] at c0 c1 c2 c3
      rw [Int.toNat_natCast] at c0 c1 c2 c3
      have HX := Lib.hid hx
      have HP := Lib.hid (find1_any x id b wr HF.out HFl.out)
      clear hx hr hB
      cases hp : namedB id x with
      | true =>
        rw [hp] at HP
        have HPp := Lib.hid hp
        clear hp
        go_wp2_with fail
        refine HP.out.mono ?_
        rintro e w1 ⟨rfl, hb1⟩
        have HB1 := Lib.hid (below_then' HB.out hb1)
        clear hb1 c0 c1 c2 c3
        go_wp2_with fail
        go_ret
        exact ⟨ret_int (findF_hit l id k x HX.out HPp.out hN.out).symm, HB1.out⟩
      | false =>
        rw [hp] at HP
        have HPp := Lib.hid (show ∀ (j : Nat) (y : S39), j < k + 1 → l[j]? = some y → namedB id y = false from fun j y hj hy => by
          by_cases e : j = k
          · subst e; rw [HX.out] at hy; injection hy with hy; rw [← hy]; exact hp
          · exact hN.out j y (by omega) hy)
        clear hp
        go_wp2_with fail
        refine HP.out.mono ?_
        rintro e w1 ⟨rfl, hb1⟩
        have HB1 := Lib.hid (below_then' HB.out hb1)
        clear hb1 c0 c1 c2 c3
        go_wp2_with fail
        go_roundw
        case rel => exact ⟨HB1.out, k + 1, by omega, by go_num, HPp⟩
        case measure => simp [intOf]; omega
    · have hkl : k = l.length := by omega
      subst hkl
      clear hB
      go_wp2_with fail
      go_ret
      exact ⟨ret_int (findF_miss l id (fun j y hy => hN.out j y (List.getElem?_eq_some_iff.1 hy).1 hy)).symm, HB.out⟩
theorem findF_range (l : List S39) (id : ByteArray) : findF l id = -1 ∨ (0 ≤ findF l id ∧ findF l id < l.length) := by
  unfold findF
  cases h : l.findIdx? (namedB id) with
  | none => exact .inl rfl
  | some k =>
    right
    rw [List.findIdx?_eq_some_iff_getElem] at h
    obtain ⟨hk, _⟩ := h
    show (0 : Int) ≤ (k : Int) ∧ (k : Int) < (l.length : Int)
    omega
set_option maxRecDepth 100000 in
set_option maxHeartbeats 1600000 in
theorem find_any (A : Option Addr) (c : Nat) (l : List S39) (id : ByteArray) (w : World) (hC : Kd.C k39 w A l.length l) (hl : l.length < 9223372036854775807) :
    Calls Tryz.prog 42 #[.slice A l.length c, .string id] w fun e w' => e = .returned (.tuple #[.int .i64 (if 0 ≤ findF l id then findF l id else 0), .bool (decide (0 ≤ findF l id))]) ∧ Below w.heap.size w w' := by
  have hB : Below w.heap.size w (w.alloc (.cells #[.string id] 9)) := (Below.refl _ _).alloc (Nat.le_refl _) _
  have HI := Lib.hid (index_any A c l id w.heap.size (w.alloc (.cells #[.string id] 9)) (Kd.C_below hC hB) hl (alloc_cell _ _ _ _ _ rfl) (by rw [alloc_size]; omega))
  have HB := Lib.hid hB
  clear hB hC
  have hmf : ∀ fn first cap w, (Instr.makeFunc fn first cap).run Tryz.prog w = .ok (.func fn first cap) w := fun _ _ _ _ => rfl
  have hr := findF_range l id
  obtain ⟨v, hv⟩ : ∃ v, findF l id = v := ⟨_, rfl⟩
  rw [hv] at HI hr ⊢
  clear hv
  rcases hr with rfl | ⟨h0, h1⟩
  · go_enter Tryz.func42, Tryz.ntmps42
    go_wp2_with fail
    refine HI.out.mono ?_
    rintro e w1 ⟨rfl, hb1⟩
    have HB1 := Lib.hid (below_then' HB.out hb1)
    clear hb1
    go_wp2_with fail
    go_ret2
    exact ⟨rfl, HB1.out⟩
  · go_enter Tryz.func42, Tryz.ntmps42
    go_wp2_with fail
    refine HI.out.mono ?_
    rintro e w1 ⟨rfl, hb1⟩
    have HB1 := Lib.hid (below_then' HB.out hb1)
    clear hb1
    go_wp2_with fail
    go_ret2
    exact ⟨tuple2 (congrArg (Value.int .i64) (show max v 0 = v by omega)) rfl, HB1.out⟩
end Go.Proofs.YtchooidhieaphaaGreatDoor
set_option linter.unusedVariables false
set_option linter.unusedSimpArgs false
namespace Go.Proofs.YtchooidhieaphaaGreatDoor
open Go.RowKit Go.Proofs.YtchooidhieaphaaGreatDoorW.PrintWords PRulesValues
/-- What strconv.Atoi reads, if it reads a number. -/
def atoiF (l : List UInt8) : Option Int := match Lib.atoiAll l with | .ok v => some v | _ => none
theorem atoi_any (s : ByteArray) (w : World) (hG : Good w) (hs : s.size < 4294967281) :
    Calls Tryz.prog 43 #[.string s] w fun e w' => (∃ v er, e = .returned (.tuple #[.int .i64 v, er]) ∧ ((atoiF s.data.toList = some v ∧ er = .nilIface) ∨ (atoiF s.data.toList = none ∧ ∃ t p, er = .iface t p))) ∧ Below w.heap.size w w' := by
  unfold atoiF
  rcases h : Lib.atoiAll s.data.toList with v | _ | _
  · refine Calls.mono (Any.strconv_Atoi_ok Tryz.laysC172 s (by omega) v h w : Calls Tryz.prog 43 #[.string s] w _) fun _ _ h => ⟨⟨v, _, h.1, .inl ⟨rfl, rfl⟩⟩, ?_⟩
    rcases h.2 with rfl | ⟨t, rfl⟩
    · exact Below.refl _ _
    · exact Lib.bytesWorld_below _ _ _
  · obtain ⟨t, p, hv⟩ := hG.errS
    refine Calls.mono (Any.strconv_Atoi_syntax_var Tryz.laysC172 s (by omega) h t p w hv : Calls Tryz.prog 43 #[.string s] w _) fun _ _ h => ?_
    obtain ⟨N, h1, h2, h3, h4⟩ := h
    exact ⟨⟨_, _, h1, .inr ⟨rfl, _, _, rfl⟩⟩, h4⟩
  · obtain ⟨t, p, hv⟩ := hG.errR
    refine Calls.mono (Any.strconv_Atoi_range_var Tryz.laysC172 s (by omega) h t p w hv : Calls Tryz.prog 43 #[.string s] w _) fun _ _ h => ?_
    obtain ⟨N, h1, h2, h3, h4⟩ := h
    exact ⟨⟨_, _, h1, .inr ⟨rfl, _, _, rfl⟩⟩, h4⟩
theorem itoa_any (n : Int) (w : World) (hG : Good w) (h0 : -9223372036854775808 ≤ n) (h1 : n ≤ 9223372036854775807) :
    Calls Tryz.prog 44 #[.int .i64 n] w fun e w' => e = .returned (.string ⟨(Lib.itoa n).toArray⟩) ∧ Below w.heap.size w w' :=
  (Tryz.strconv_Itoa n h0 h1 w hG.pow10).mono fun _ _ h => ⟨h.1, by obtain ⟨k, os, rfl⟩ := h.2; exact Lib.below_grow _ _ (Nat.le_refl _) _ _⟩
theorem atoiF_bounds {l : List UInt8} {v : Int} (h : atoiF l = some v) : -9223372036854775808 ≤ v ∧ v ≤ 9223372036854775807 := by
  unfold atoiF at h
  split at h
  · rename_i v' h'
    injection h with h
    subst h
    exact Lib.atoiAll_bounds h'
  · cases h
def hrefF (v : List UInt8) : List UInt8 × Bool := if 1 ≤ kindF v ∧ kindF v ≤ 3 then (cleanF v, true) else ([], false)
set_option maxRecDepth 100000 in
set_option maxHeartbeats 1600000 in
theorem href_any (b1 b2 b3 : Bool) (A : Option Addr) (n c : Nat) (v : ByteArray) (w : World) (hG : Good w) (hv : v.size < 4294967281) :
    Calls Tryz.prog 23 #[.agg #[.bool b1, .bool b2, .bool b3, .slice A n c], .string v] w fun en w' => en = .returned (.tuple #[.string ⟨(hrefF v.data.toList).1.toArray⟩, .bool (hrefF v.data.toList).2]) ∧ Below w.heap.size w w' := by
  obtain ⟨W0, hW0⟩ : ∃ W0, w.alloc (Obj.cells #[Value.bool b1, Value.bool b2, Value.bool b3, .slice A n c] 43) = W0 := ⟨_, rfl⟩
  have hB0 : Below w.heap.size w W0 := hW0 ▸ (Below.refl _ _).alloc (Nat.le_refl _) _
  have HB0 := Lib.hid hB0
  have HW0 := Lib.hid hW0
  have HKi := Lib.hid (kind_any v W0 (hG.below hB0) hv)
  have HC := Lib.hid (fun w1 => clean_any v w1 hv)
  have hk := kindF_cases v.data.toList
  have hF : hrefF v.data.toList = if 1 ≤ kindF v.data.toList ∧ kindF v.data.toList ≤ 3 then (cleanF v.data.toList, true) else ([], false) := rfl
  rw [hF]
  obtain ⟨k, hkk⟩ : ∃ k, kindF v.data.toList = k := ⟨_, rfl⟩
  rw [hkk] at HKi hk ⊢
  clear hkk hW0 hB0 hG hF
  rcases hk with rfl | rfl | rfl | rfl | rfl | rfl
  all_goals
    go_enter Tryz.func23, Tryz.ntmps23
    go_wp2_with fail
    rw [HW0.out]
    refine HKi.out.mono ?_
    rintro en w1 ⟨rfl, hb1⟩
    have HB1 := Lib.hid (below_then' HB0.out hb1)
    clear hb1
    go_wp2_with fail
    first
      | (refine (HC.out w1).mono ?_
         rintro en w2 ⟨rfl, hb2⟩
         have HB2 := Lib.hid (below_then' HB1.out hb2)
         clear hb2
         go_wp2_with fail
         go_ret2
         exact ⟨rfl, HB2.out⟩)
      | (go_ret2
         exact ⟨rfl, HB1.out⟩)
end Go.Proofs.YtchooidhieaphaaGreatDoor
set_option linter.unusedVariables false
set_option linter.unusedSimpArgs false
namespace Go.Proofs.YtchooidhieaphaaGreatDoor
open Go.RowKit Go.Proofs.YtchooidhieaphaaGreatDoorW.PrintWords PRulesValues
theorem hasPrefix_len {l p : List UInt8} (h : Lib.hasPrefix l p = true) : p.length ≤ l.length := by
  unfold Lib.hasPrefix at h
  have := List.isPrefixOf_iff_prefix.1 h
  exact this.length_le
theorem extract_drop (s : ByteArray) (k : Nat) : (s.extract k s.size).data.toList = s.data.toList.drop k := by
  rw [ByteArray.data_extract, Array.toList_extract, List.extract_eq_take_drop]
  rw [List.take_of_length_le]
  rw [List.length_drop]
  exact Nat.le_of_eq rfl
theorem str_join (a b : List UInt8) : Value.string ((⟨a.toArray⟩ : ByteArray) ++ ⟨b.toArray⟩) = Value.string ⟨(a ++ b).toArray⟩ := by
  congr 1
/-- "att:". -/
def attB : List UInt8 := [97, 116, 116, 58]
/-- The number behind "att:", where it is written plainly; else -1. -/
def attN (u : List UInt8) : Int := match atoiF (u.drop 4) with | some i => if u = attB ++ Lib.itoa i then i else -1 | none => -1
/-- The attachment that an address names; -1: none. -/
def srcN (l : List S39) (v : List UInt8) : Int := if kindF v = 4 then findF l ⟨(Lib.cut (cleanF v) [58]).2.1.toArray⟩ else if Lib.hasPrefix (cleanF v) attB = true then attN (cleanF v) else -1
def srcG (l : List S39) (n : Int) : List UInt8 × Bool := if 0 ≤ n ∧ n < l.length ∧ Lib.hasPrefix (rd_T39 l n).f1.data.toList [105, 109, 97, 103, 101, 47] = true then (attB ++ Lib.itoa n, true) else ([], false)
def srcF (b : Bool) (l : List S39) (v : List UInt8) : List UInt8 × Bool := if kindF v = 2 ∧ b = true then (cleanF v, true) else srcG l (srcN l v)
set_option maxRecDepth 100000 in
set_option maxHeartbeats 3200000 in
theorem src_any (b1 b2 b3 : Bool) (A : Option Addr) (c : Nat) (l : List S39) (v : ByteArray) (w : World) (hG : Good w) (hv : v.size < 4294967281) (hC : Kd.C k39 w A l.length l) (hl : l.length < 9223372036854775807) :
    Calls Tryz.prog 24 #[.agg #[.bool b1, .bool b2, .bool b3, .slice A l.length c], .string v] w fun en w' => en = .returned (.tuple #[.string ⟨(srcF b1 l v.data.toList).1.toArray⟩, .bool (srcF b1 l v.data.toList).2]) ∧ Below w.heap.size w w' := by
  obtain ⟨W0, hW0⟩ : ∃ W0, w.alloc (Obj.cells #[Value.bool b1, Value.bool b2, Value.bool b3, .slice A l.length c] 43) = W0 := ⟨_, rfl⟩
  have hB0 : Below w.heap.size w W0 := hW0 ▸ (Below.refl _ _).alloc (Nat.le_refl _) _
  have hr0 : W0.heap[w.heap.size]? = some (.cells #[Value.bool b1, Value.bool b2, Value.bool b3, .slice A l.length c] 43 (0, 0)) := by rw [← hW0]; exact blk_new _ _
  have HB0 := Lib.hid hB0
  have HW0 := Lib.hid hW0
  have HR0 := Lib.hid hr0
  have HG0 := Lib.hid (hG.below hB0)
  have HC0 := Lib.hid (Kd.C_below hC hB0)
  have HKi := Lib.hid (fun w1 (h : Good w1) => kind_any v w1 h hv)
  have HCl := Lib.hid (clean_any v W0 hv)
  have hle := cleanF_le v.data.toList
  rw [← Lib.size_eq] at hle
  have hcs : (⟨(cleanF v.data.toList).toArray⟩ : ByteArray).size < 4294967281 := by rw [size_mk]; omega
  have hk := kindF_cases v.data.toList
  have hF : srcF b1 l v.data.toList = if kindF v.data.toList = 2 ∧ b1 = true then (cleanF v.data.toList, true) else srcG l (if kindF v.data.toList = 4 then findF l ⟨(Lib.cut (cleanF v.data.toList) [58]).2.1.toArray⟩ else if Lib.hasPrefix (cleanF v.data.toList) attB = true then attN (cleanF v.data.toList) else -1) := rfl
  rw [hF]
  obtain ⟨k, hkk⟩ : ∃ k, kindF v.data.toList = k := ⟨_, rfl⟩
  obtain ⟨cb, hcb⟩ : ∃ cb : ByteArray, (⟨(cleanF v.data.toList).toArray⟩ : ByteArray) = cb := ⟨_, rfl⟩
  have hcl : cleanF v.data.toList = cb.data.toList := by rw [← hcb]
  rw [hkk] at HKi hk ⊢
  rw [hcb] at HCl hcs
  rw [hcl]
  clear hkk hW0 hB0 hG hF hC hr0 hcb hcl hle hv
  have HCut := Lib.hid (fun w1 (h : Good w1) => cut_any cb 58 w1 h hcs)
  have HFind := Lib.hid (fun (id : ByteArray) (w1 : World) (h : Kd.C k39 w1 A l.length l) => find_any A c l id w1 h hl)
  have HPre := Lib.hid (fun (p : ByteArray) (w1 : World) => hasP_any cb p w1)
  have HAtoi := Lib.hid (fun (s : ByteArray) (w1 : World) (h : Good w1) => atoi_any s w1 h)
  have HItoa := Lib.hid (fun (n : Int) (w1 : World) (h : Good w1) (h0) (h1) => itoa_any n w1 h h0 h1)
  have HB := HB0
  have HR := HR0
  have HG := HG0
  have HC := HC0
  clear HR0 HG0 HC0
  by_cases hkb : k = 2 ∧ b1 = true
  · obtain ⟨rfl, rfl⟩ := hkb
    rw [if_pos ⟨rfl, rfl⟩]
    clear hk
    go_enter Tryz.func24, Tryz.ntmps24
    go_wp2_with fail
    rw [HW0.out]
    refine (HCl.out).mono ?_
    rintro en w1 ⟨rfl, hb⟩
    replace HB := Lib.hid (below_then' HB.out hb)
    replace HR := Lib.hid (blk_below HR.out hb)
    replace HG := Lib.hid (HG.out.below hb)
    replace HC := Lib.hid (Kd.C_below HC.out hb)
    clear hb
    go_wp2_with fail
    refine (HKi.out w1 HG.out).mono ?_
    rintro en w2 ⟨rfl, hb⟩
    replace HB := Lib.hid (below_then' HB.out hb)
    replace HR := Lib.hid (blk_below HR.out hb)
    replace HG := Lib.hid (HG.out.below hb)
    replace HC := Lib.hid (Kd.C_below HC.out hb)
    clear hb
    have j0 : w2.cell? ⟨w.heap.size, 0, none⟩ = some (.bool true) := blk_cell HR.out 0
    have j3 : w2.cell? ⟨w.heap.size, 3, none⟩ = some (.slice A l.length c) := blk_cell HR.out 3
    go_wp2_with fail
    go_ret2
    exact ⟨rfl, HB.out⟩
  · rw [if_neg hkb]
    by_cases hk4 : k = 4
    · subst hk4
      rw [if_pos rfl]
      clear hk hkb HPre HAtoi
      obtain ⟨id, hid⟩ : ∃ id : ByteArray, (⟨(Lib.cut cb.data.toList [58]).2.1.toArray⟩ : ByteArray) = id := ⟨_, rfl⟩
      replace HFind := Lib.hid (fun w1 h => HFind.out id w1 h)
      have hr := findF_range l id
      rw [hid] at HCut ⊢
      obtain ⟨f, hf⟩ : ∃ f, findF l id = f := ⟨_, rfl⟩
      rw [hf] at HFind hr ⊢
      clear hid hf
      rcases hr with rfl | ⟨h0, h1⟩
      · have hG0 : srcG l (-1) = ([], false) := if_neg (fun h => absurd h.1 (by decide))
        rw [hG0]
        clear hG0
        replace HFind := Lib.hid (fun w1 h => by have := HFind.out w1 h; rwa [if_neg (show ¬ (0 : Int) ≤ -1 by decide)] at this)
        go_enter Tryz.func24, Tryz.ntmps24
        go_wp2_with fail
        rw [HW0.out]
        refine (HCl.out).mono ?_
        rintro en w1 ⟨rfl, hb⟩
        replace HB := Lib.hid (below_then' HB.out hb)
        replace HR := Lib.hid (blk_below HR.out hb)
        replace HG := Lib.hid (HG.out.below hb)
        replace HC := Lib.hid (Kd.C_below HC.out hb)
        clear hb
        go_wp2_with fail
        refine (HKi.out w1 HG.out).mono ?_
        rintro en w2 ⟨rfl, hb⟩
        replace HB := Lib.hid (below_then' HB.out hb)
        replace HR := Lib.hid (blk_below HR.out hb)
        replace HG := Lib.hid (HG.out.below hb)
        replace HC := Lib.hid (Kd.C_below HC.out hb)
        clear hb
        have j0 : w2.cell? ⟨w.heap.size, 0, none⟩ = some (.bool b1) := blk_cell HR.out 0
        have j3 : w2.cell? ⟨w.heap.size, 3, none⟩ = some (.slice A l.length c) := blk_cell HR.out 3
        go_wp2_with fail
        refine (HCut.out w2 HG.out).mono ?_
        rintro en w3 ⟨rfl, hb⟩
        replace HB := Lib.hid (below_then' HB.out hb)
        replace HR := Lib.hid (blk_below HR.out hb)
        replace HG := Lib.hid (HG.out.below hb)
        replace HC := Lib.hid (Kd.C_below HC.out hb)
        clear hb
        have j0 : w3.cell? ⟨w.heap.size, 0, none⟩ = some (.bool b1) := blk_cell HR.out 0
        have j3 : w3.cell? ⟨w.heap.size, 3, none⟩ = some (.slice A l.length c) := blk_cell HR.out 3
        go_wp2_with fail
        refine (HFind.out w3 HC.out).mono ?_
        rintro en w4 ⟨rfl, hb⟩
        replace HB := Lib.hid (below_then' HB.out hb)
        replace HR := Lib.hid (blk_below HR.out hb)
        replace HG := Lib.hid (HG.out.below hb)
        replace HC := Lib.hid (Kd.C_below HC.out hb)
        clear hb
        have j0 : w4.cell? ⟨w.heap.size, 0, none⟩ = some (.bool b1) := blk_cell HR.out 0
        have j3 : w4.cell? ⟨w.heap.size, 3, none⟩ = some (.slice A l.length c) := blk_cell HR.out 3
        go_wp2_with fail
        go_ret2
        exact ⟨rfl, HB.out⟩
      · replace HFind := Lib.hid (fun w1 h => by have := HFind.out w1 h; rwa [if_pos h0] at this)
        have hd0 : decide (0 ≤ f) = true := decide_eq_true h0
        have HI := Lib.hid (fun wx => hasP_any (rd_T39 l f).f1 ⟨#[105, 109, 97, 103, 101, 47]⟩ wx)
        obtain ⟨q, hq⟩ : ∃ q, Lib.hasPrefix (rd_T39 l f).f1.data.toList (⟨#[105, 109, 97, 103, 101, 47]⟩ : ByteArray).data.toList = q := ⟨_, rfl⟩
        rw [hq] at HI
        have hG : srcG l f = if q = true then (attB ++ Lib.itoa f, true) else ([], false) := by
          rw [← hq]
          unfold srcG
          by_cases hh : Lib.hasPrefix (rd_T39 l f).f1.data.toList (⟨#[105, 109, 97, 103, 101, 47]⟩ : ByteArray).data.toList = true
          · rw [if_pos ⟨h0, h1, hh⟩, if_pos hh]
          · rw [if_neg (fun h => hh h.2.2), if_neg hh]
        rw [hG]
        clear hq hG
        cases q with
        | false =>
          rw [if_neg (by decide)]
          go_enter Tryz.func24, Tryz.ntmps24
          go_wp2_with fail
          rw [HW0.out]
          refine (HCl.out).mono ?_
          rintro en w1 ⟨rfl, hb⟩
          replace HB := Lib.hid (below_then' HB.out hb)
          replace HR := Lib.hid (blk_below HR.out hb)
          replace HG := Lib.hid (HG.out.below hb)
          replace HC := Lib.hid (Kd.C_below HC.out hb)
          clear hb
          go_wp2_with fail
          refine (HKi.out w1 HG.out).mono ?_
          rintro en w2 ⟨rfl, hb⟩
          replace HB := Lib.hid (below_then' HB.out hb)
          replace HR := Lib.hid (blk_below HR.out hb)
          replace HG := Lib.hid (HG.out.below hb)
          replace HC := Lib.hid (Kd.C_below HC.out hb)
          clear hb
          have j0 : w2.cell? ⟨w.heap.size, 0, none⟩ = some (.bool b1) := blk_cell HR.out 0
          have j3 : w2.cell? ⟨w.heap.size, 3, none⟩ = some (.slice A l.length c) := blk_cell HR.out 3
          go_wp2_with fail
          refine (HCut.out w2 HG.out).mono ?_
          rintro en w3 ⟨rfl, hb⟩
          replace HB := Lib.hid (below_then' HB.out hb)
          replace HR := Lib.hid (blk_below HR.out hb)
          replace HG := Lib.hid (HG.out.below hb)
          replace HC := Lib.hid (Kd.C_below HC.out hb)
          clear hb
          have j0 : w3.cell? ⟨w.heap.size, 0, none⟩ = some (.bool b1) := blk_cell HR.out 0
          have j3 : w3.cell? ⟨w.heap.size, 3, none⟩ = some (.slice A l.length c) := blk_cell HR.out 3
          go_wp2_with fail
          refine (HFind.out w3 HC.out).mono ?_
          rintro en w4 ⟨rfl, hb⟩
          replace HB := Lib.hid (below_then' HB.out hb)
          replace HR := Lib.hid (blk_below HR.out hb)
          replace HG := Lib.hid (HG.out.below hb)
          replace HC := Lib.hid (Kd.C_below HC.out hb)
          clear hb
          have j0 : w4.cell? ⟨w.heap.size, 0, none⟩ = some (.bool b1) := blk_cell HR.out 0
          have j3 : w4.cell? ⟨w.heap.size, 3, none⟩ = some (.slice A l.length c) := blk_cell HR.out 3
          obtain ⟨ad, rfl, c0, c1, c2, c3⟩ := at_T39 HC.out f h0 h1
          clear c0 c2 c3
          go_wp2_with fail
          refine (HI.out w4).mono ?_
          rintro en w' ⟨rfl, rfl⟩
          go_wp2_with fail
          go_ret2
          exact ⟨rfl, HB.out⟩
        | true =>
          rw [if_pos rfl]
          have hil := Lib.itoa_length_le f (by omega) (by omega)
          rw [← size_mk] at hil
          have HIa := Lib.hid (fun w1 h => HItoa.out f w1 h (by omega) (by omega))
          have HJ := Lib.hid (str_join attB (Lib.itoa f))
          obtain ⟨ib, hib2⟩ : ∃ ib : ByteArray, (⟨(Lib.itoa f).toArray⟩ : ByteArray) = ib := ⟨_, rfl⟩
          rw [hib2] at hil HIa HJ
          clear hib2
          go_enter Tryz.func24, Tryz.ntmps24
          go_wp2_with fail
          rw [HW0.out]
          refine (HCl.out).mono ?_
          rintro en w1 ⟨rfl, hb⟩
          replace HB := Lib.hid (below_then' HB.out hb)
          replace HR := Lib.hid (blk_below HR.out hb)
          replace HG := Lib.hid (HG.out.below hb)
          replace HC := Lib.hid (Kd.C_below HC.out hb)
          clear hb
          go_wp2_with fail
          refine (HKi.out w1 HG.out).mono ?_
          rintro en w2 ⟨rfl, hb⟩
          replace HB := Lib.hid (below_then' HB.out hb)
          replace HR := Lib.hid (blk_below HR.out hb)
          replace HG := Lib.hid (HG.out.below hb)
          replace HC := Lib.hid (Kd.C_below HC.out hb)
          clear hb
          have j0 : w2.cell? ⟨w.heap.size, 0, none⟩ = some (.bool b1) := blk_cell HR.out 0
          have j3 : w2.cell? ⟨w.heap.size, 3, none⟩ = some (.slice A l.length c) := blk_cell HR.out 3
          go_wp2_with fail
          refine (HCut.out w2 HG.out).mono ?_
          rintro en w3 ⟨rfl, hb⟩
          replace HB := Lib.hid (below_then' HB.out hb)
          replace HR := Lib.hid (blk_below HR.out hb)
          replace HG := Lib.hid (HG.out.below hb)
          replace HC := Lib.hid (Kd.C_below HC.out hb)
          clear hb
          have j0 : w3.cell? ⟨w.heap.size, 0, none⟩ = some (.bool b1) := blk_cell HR.out 0
          have j3 : w3.cell? ⟨w.heap.size, 3, none⟩ = some (.slice A l.length c) := blk_cell HR.out 3
          go_wp2_with fail
          refine (HFind.out w3 HC.out).mono ?_
          rintro en w4 ⟨rfl, hb⟩
          replace HB := Lib.hid (below_then' HB.out hb)
          replace HR := Lib.hid (blk_below HR.out hb)
          replace HG := Lib.hid (HG.out.below hb)
          replace HC := Lib.hid (Kd.C_below HC.out hb)
          clear hb
          have j0 : w4.cell? ⟨w.heap.size, 0, none⟩ = some (.bool b1) := blk_cell HR.out 0
          have j3 : w4.cell? ⟨w.heap.size, 3, none⟩ = some (.slice A l.length c) := blk_cell HR.out 3
          obtain ⟨ad, rfl, c0, c1, c2, c3⟩ := at_T39 HC.out f h0 h1
          clear c0 c2 c3
          go_wp2_with fail
          refine (HI.out w4).mono ?_
          rintro en w' ⟨rfl, rfl⟩
          go_wp2_with fail
          refine (HIa.out _ HG.out).mono ?_
          rintro en w5 ⟨rfl, hb⟩
          replace HB := Lib.hid (below_then' HB.out hb)
          replace HR := Lib.hid (blk_below HR.out hb)
          replace HG := Lib.hid (HG.out.below hb)
          replace HC := Lib.hid (Kd.C_below HC.out hb)
          clear hb
          go_wp2_with fail
          go_ret2
          exact ⟨tuple2 HJ.out rfl, HB.out⟩
    · rw [if_neg hk4]
      obtain ⟨p, hp⟩ : ∃ p, Lib.hasPrefix cb.data.toList attB = p := ⟨_, rfl⟩
      have hp' : Lib.hasPrefix cb.data.toList (⟨#[97, 116, 116, 58]⟩ : ByteArray).data.toList = p := hp
      replace HPre := Lib.hid (fun w1 => by have := HPre.out ⟨#[97, 116, 116, 58]⟩ w1; rwa [hp'] at this)
      have hsz : p = true → 4 ≤ cb.size := fun h => by
        rw [h] at hp
        rw [Lib.size_eq]
        exact hasPrefix_len hp
      rw [hp]
      have HK2 := Lib.hid hkb
      clear hp hp' hk hkb
      cases p with
      | false =>
        by_cases hk2 : k = 2
        · subst hk2
          obtain rfl : b1 = false := by
            cases hb : b1 with
            | false => rfl
            | true => exact absurd ⟨rfl, hb⟩ HK2.out
          clear HK2 hk4
          clear hsz
          rw [if_neg (by decide)]
          have hG0 : srcG l (-1) = ([], false) := if_neg (fun h => absurd h.1 (by decide))
          rw [hG0]
          clear hG0
          go_enter Tryz.func24, Tryz.ntmps24
          go_wp2_with fail
          rw [HW0.out]
          refine (HCl.out).mono ?_
          rintro en w1 ⟨rfl, hb⟩
          replace HB := Lib.hid (below_then' HB.out hb)
          replace HR := Lib.hid (blk_below HR.out hb)
          replace HG := Lib.hid (HG.out.below hb)
          replace HC := Lib.hid (Kd.C_below HC.out hb)
          clear hb
          go_wp2_with fail
          refine (HKi.out w1 HG.out).mono ?_
          rintro en w2 ⟨rfl, hb⟩
          replace HB := Lib.hid (below_then' HB.out hb)
          replace HR := Lib.hid (blk_below HR.out hb)
          replace HG := Lib.hid (HG.out.below hb)
          replace HC := Lib.hid (Kd.C_below HC.out hb)
          clear hb
          have j0 : w2.cell? ⟨w.heap.size, 0, none⟩ = some (.bool false) := blk_cell HR.out 0
          have j3 : w2.cell? ⟨w.heap.size, 3, none⟩ = some (.slice A l.length c) := blk_cell HR.out 3
          go_wp2_with fail
          refine (HPre.out w2).mono ?_
          rintro en w3 ⟨rfl, rfl⟩
          go_wp2_with fail
          go_ret2
          exact ⟨rfl, HB.out⟩
        · have hk2b : (k == 2) = false := by simp [hk2]
          have hk4b : (k == 4) = false := by simp [hk4]
          clear HK2 hk2 hk4
          clear hsz
          rw [if_neg (by decide)]
          have hG0 : srcG l (-1) = ([], false) := if_neg (fun h => absurd h.1 (by decide))
          rw [hG0]
          clear hG0
          go_enter Tryz.func24, Tryz.ntmps24
          go_wp2_with fail
          rw [HW0.out]
          refine (HCl.out).mono ?_
          rintro en w1 ⟨rfl, hb⟩
          replace HB := Lib.hid (below_then' HB.out hb)
          replace HR := Lib.hid (blk_below HR.out hb)
          replace HG := Lib.hid (HG.out.below hb)
          replace HC := Lib.hid (Kd.C_below HC.out hb)
          clear hb
          go_wp2_with fail
          refine (HKi.out w1 HG.out).mono ?_
          rintro en w2 ⟨rfl, hb⟩
          replace HB := Lib.hid (below_then' HB.out hb)
          replace HR := Lib.hid (blk_below HR.out hb)
          replace HG := Lib.hid (HG.out.below hb)
          replace HC := Lib.hid (Kd.C_below HC.out hb)
          clear hb
          have j0 : w2.cell? ⟨w.heap.size, 0, none⟩ = some (.bool b1) := blk_cell HR.out 0
          have j3 : w2.cell? ⟨w.heap.size, 3, none⟩ = some (.slice A l.length c) := blk_cell HR.out 3
          go_wp2_with fail
          refine (HPre.out w2).mono ?_
          rintro en w3 ⟨rfl, rfl⟩
          go_wp2_with fail
          go_ret2
          exact ⟨rfl, HB.out⟩
      | true =>
        by_cases hk2 : k = 2
        · subst hk2
          obtain rfl : b1 = false := by
            cases hb : b1 with
            | false => rfl
            | true => exact absurd ⟨rfl, hb⟩ HK2.out
          clear HK2 hk4
          rw [if_pos rfl]
          have hs4 := hsz rfl
          clear hsz
          have hx : (cb.extract 4 cb.size).data.toList = cb.data.toList.drop 4 := extract_drop cb 4
          have hxs : (cb.extract 4 cb.size).size < 4294967281 := by rw [Lib.size_eq, hx, List.length_drop, ← Lib.size_eq]; omega
          replace HAtoi := Lib.hid (fun w1 h => HAtoi.out (cb.extract 4 cb.size) w1 h hxs)
          rw [hx] at HAtoi
          cases ha : atoiF (cb.data.toList.drop 4) with
          | none =>
            have hn : attN cb.data.toList = -1 := by unfold attN; rw [ha]
            have hG0 : srcG l (-1) = ([], false) := if_neg (fun h => absurd h.1 (by decide))
            rw [hn, hG0]
            rw [ha] at HAtoi
            clear hn hG0 hx hxs ha
            go_enter Tryz.func24, Tryz.ntmps24
            go_wp2_with fail
            rw [HW0.out]
            refine (HCl.out).mono ?_
            rintro en w1 ⟨rfl, hb⟩
            replace HB := Lib.hid (below_then' HB.out hb)
            replace HR := Lib.hid (blk_below HR.out hb)
            replace HG := Lib.hid (HG.out.below hb)
            replace HC := Lib.hid (Kd.C_below HC.out hb)
            clear hb
            go_wp2_with fail
            refine (HKi.out w1 HG.out).mono ?_
            rintro en w2 ⟨rfl, hb⟩
            replace HB := Lib.hid (below_then' HB.out hb)
            replace HR := Lib.hid (blk_below HR.out hb)
            replace HG := Lib.hid (HG.out.below hb)
            replace HC := Lib.hid (Kd.C_below HC.out hb)
            clear hb
            have j0 : w2.cell? ⟨w.heap.size, 0, none⟩ = some (.bool false) := blk_cell HR.out 0
            have j3 : w2.cell? ⟨w.heap.size, 3, none⟩ = some (.slice A l.length c) := blk_cell HR.out 3
            go_wp2_with fail
            refine (HPre.out w2).mono ?_
            rintro en w3 ⟨rfl, rfl⟩
            go_wp2_with fail
            refine (HAtoi.out w2 HG.out).mono ?_
            rintro en w3 ⟨⟨i, er, rfl, hcase⟩, hb⟩
            rcases hcase with ⟨h, _⟩ | ⟨_, t, p, rfl⟩
            · cases h
            replace HB := Lib.hid (below_then' HB.out hb)
            clear hb
            go_wp2_with fail
            go_ret2
            exact ⟨rfl, HB.out⟩
          | some i =>
            have hib := atoiF_bounds ha
            rw [ha] at HAtoi
            have HEq := Lib.hid (show (cb.data.toList = attB ++ Lib.itoa i → attN cb.data.toList = i) ∧ (¬ cb.data.toList = attB ++ Lib.itoa i → attN cb.data.toList = -1) from ⟨fun h => by unfold attN; rw [ha]; exact if_pos h, fun h => by unfold attN; rw [ha]; exact if_neg h⟩)
            clear hx hxs ha
            have HIs := Lib.hid (fun w1 h => HItoa.out i w1 h hib.1 hib.2)
            obtain ⟨tb, htb⟩ : ∃ tb : ByteArray, (⟨(Lib.itoa i).toArray⟩ : ByteArray) = tb := ⟨_, rfl⟩
            have htl : (((⟨#[97, 116, 116, 58]⟩ : ByteArray) ++ tb).toList) = attB ++ Lib.itoa i := by
              rw [← htb, ByteArray.toList_eq]
              simp [ByteArray.data_append, attB]
            have hts : tb.size ≤ 21 := by rw [← htb, size_mk]; exact Lib.itoa_length_le i hib.1 hib.2
            rw [htb] at HIs
            clear htb
            by_cases he : cb.data.toList = attB ++ Lib.itoa i
            · have hd : (cb.toList == ((⟨#[97, 116, 116, 58]⟩ : ByteArray) ++ tb).toList) = true := by rw [htl, ByteArray.toList_eq, he]; simp
              rw [HEq.out.1 he]
              clear he htl HEq
              by_cases h0 : 0 ≤ i
              · by_cases h1 : i < l.length
                · have HI := Lib.hid (fun wx => hasP_any (rd_T39 l i).f1 ⟨#[105, 109, 97, 103, 101, 47]⟩ wx)
                  obtain ⟨q, hq⟩ : ∃ q, Lib.hasPrefix (rd_T39 l i).f1.data.toList (⟨#[105, 109, 97, 103, 101, 47]⟩ : ByteArray).data.toList = q := ⟨_, rfl⟩
                  rw [hq] at HI
                  have hG : srcG l i = if q = true then (attB ++ Lib.itoa i, true) else ([], false) := by
                    rw [← hq]
                    unfold srcG
                    by_cases hh : Lib.hasPrefix (rd_T39 l i).f1.data.toList (⟨#[105, 109, 97, 103, 101, 47]⟩ : ByteArray).data.toList = true
                    · rw [if_pos ⟨h0, h1, hh⟩, if_pos hh]
                    · rw [if_neg (fun h => hh h.2.2), if_neg hh]
                  rw [hG]
                  clear hq hG
                  cases q with
                  | false =>
                    rw [if_neg (by decide)]
                    go_enter Tryz.func24, Tryz.ntmps24
                    go_wp2_with fail
                    rw [HW0.out]
                    refine (HCl.out).mono ?_
                    rintro en w1 ⟨rfl, hb⟩
                    replace HB := Lib.hid (below_then' HB.out hb)
                    replace HR := Lib.hid (blk_below HR.out hb)
                    replace HG := Lib.hid (HG.out.below hb)
                    replace HC := Lib.hid (Kd.C_below HC.out hb)
                    clear hb
                    go_wp2_with fail
                    refine (HKi.out w1 HG.out).mono ?_
                    rintro en w2 ⟨rfl, hb⟩
                    replace HB := Lib.hid (below_then' HB.out hb)
                    replace HR := Lib.hid (blk_below HR.out hb)
                    replace HG := Lib.hid (HG.out.below hb)
                    replace HC := Lib.hid (Kd.C_below HC.out hb)
                    clear hb
                    have j0 : w2.cell? ⟨w.heap.size, 0, none⟩ = some (.bool false) := blk_cell HR.out 0
                    have j3 : w2.cell? ⟨w.heap.size, 3, none⟩ = some (.slice A l.length c) := blk_cell HR.out 3
                    go_wp2_with fail
                    refine (HPre.out w2).mono ?_
                    rintro en w3 ⟨rfl, rfl⟩
                    go_wp2_with fail
                    refine (HAtoi.out w2 HG.out).mono ?_
                    rintro en w3 ⟨⟨i', er, rfl, hcase⟩, hb⟩
                    have hci : i' = i ∧ er = .nilIface := by
                      rcases hcase with ⟨h, h2⟩ | ⟨h, _⟩
                      · injection h with h
                        exact ⟨h.symm, h2⟩
                      · cases h
                    clear hcase
                    obtain ⟨hci1, rfl⟩ := hci
                    obtain rfl := hci1.symm
                    replace HB := Lib.hid (below_then' HB.out hb)
                    replace HR := Lib.hid (blk_below HR.out hb)
                    replace HG := Lib.hid (HG.out.below hb)
                    replace HC := Lib.hid (Kd.C_below HC.out hb)
                    clear hb
                    go_wp2_with fail
                    refine (HIs.out w3 HG.out).mono ?_
                    rintro en w4 ⟨rfl, hb⟩
                    replace HB := Lib.hid (below_then' HB.out hb)
                    replace HR := Lib.hid (blk_below HR.out hb)
                    replace HG := Lib.hid (HG.out.below hb)
                    replace HC := Lib.hid (Kd.C_below HC.out hb)
                    clear hb
                    have j0 : w4.cell? ⟨w.heap.size, 0, none⟩ = some (.bool false) := blk_cell HR.out 0
                    have j3 : w4.cell? ⟨w.heap.size, 3, none⟩ = some (.slice A l.length c) := blk_cell HR.out 3
                    obtain ⟨ad, rfl, c0, c1, c2, c3⟩ := at_T39 HC.out i h0 h1
                    clear c0 c2 c3
                    go_wp2_with fail
                    refine (HI.out w4).mono ?_
                    rintro en w' ⟨rfl, rfl⟩
                    go_wp2_with fail
                    go_ret2
                    exact ⟨rfl, HB.out⟩
                  | true =>
                    rw [if_pos rfl]
                    have hil := Lib.itoa_length_le i (by omega) (by omega)
                    rw [← size_mk] at hil
                    have HIa := Lib.hid (fun w1 h => HItoa.out i w1 h (by omega) (by omega))
                    have HJ := Lib.hid (str_join attB (Lib.itoa i))
                    obtain ⟨ib, hib2⟩ : ∃ ib : ByteArray, (⟨(Lib.itoa i).toArray⟩ : ByteArray) = ib := ⟨_, rfl⟩
                    rw [hib2] at hil HIa HJ
                    clear hib2
                    go_enter Tryz.func24, Tryz.ntmps24
                    go_wp2_with fail
                    rw [HW0.out]
                    refine (HCl.out).mono ?_
                    rintro en w1 ⟨rfl, hb⟩
                    replace HB := Lib.hid (below_then' HB.out hb)
                    replace HR := Lib.hid (blk_below HR.out hb)
                    replace HG := Lib.hid (HG.out.below hb)
                    replace HC := Lib.hid (Kd.C_below HC.out hb)
                    clear hb
                    go_wp2_with fail
                    refine (HKi.out w1 HG.out).mono ?_
                    rintro en w2 ⟨rfl, hb⟩
                    replace HB := Lib.hid (below_then' HB.out hb)
                    replace HR := Lib.hid (blk_below HR.out hb)
                    replace HG := Lib.hid (HG.out.below hb)
                    replace HC := Lib.hid (Kd.C_below HC.out hb)
                    clear hb
                    have j0 : w2.cell? ⟨w.heap.size, 0, none⟩ = some (.bool false) := blk_cell HR.out 0
                    have j3 : w2.cell? ⟨w.heap.size, 3, none⟩ = some (.slice A l.length c) := blk_cell HR.out 3
                    go_wp2_with fail
                    refine (HPre.out w2).mono ?_
                    rintro en w3 ⟨rfl, rfl⟩
                    go_wp2_with fail
                    refine (HAtoi.out w2 HG.out).mono ?_
                    rintro en w3 ⟨⟨i', er, rfl, hcase⟩, hb⟩
                    have hci : i' = i ∧ er = .nilIface := by
                      rcases hcase with ⟨h, h2⟩ | ⟨h, _⟩
                      · injection h with h
                        exact ⟨h.symm, h2⟩
                      · cases h
                    clear hcase
                    obtain ⟨hci1, rfl⟩ := hci
                    obtain rfl := hci1.symm
                    replace HB := Lib.hid (below_then' HB.out hb)
                    replace HR := Lib.hid (blk_below HR.out hb)
                    replace HG := Lib.hid (HG.out.below hb)
                    replace HC := Lib.hid (Kd.C_below HC.out hb)
                    clear hb
                    go_wp2_with fail
                    refine (HIs.out w3 HG.out).mono ?_
                    rintro en w4 ⟨rfl, hb⟩
                    replace HB := Lib.hid (below_then' HB.out hb)
                    replace HR := Lib.hid (blk_below HR.out hb)
                    replace HG := Lib.hid (HG.out.below hb)
                    replace HC := Lib.hid (Kd.C_below HC.out hb)
                    clear hb
                    have j0 : w4.cell? ⟨w.heap.size, 0, none⟩ = some (.bool false) := blk_cell HR.out 0
                    have j3 : w4.cell? ⟨w.heap.size, 3, none⟩ = some (.slice A l.length c) := blk_cell HR.out 3
                    obtain ⟨ad, rfl, c0, c1, c2, c3⟩ := at_T39 HC.out i h0 h1
                    clear c0 c2 c3
                    go_wp2_with fail
                    refine (HI.out w4).mono ?_
                    rintro en w' ⟨rfl, rfl⟩
                    go_wp2_with fail
                    refine (HIa.out _ HG.out).mono ?_
                    rintro en w5 ⟨rfl, hb⟩
                    replace HB := Lib.hid (below_then' HB.out hb)
                    replace HR := Lib.hid (blk_below HR.out hb)
                    replace HG := Lib.hid (HG.out.below hb)
                    replace HC := Lib.hid (Kd.C_below HC.out hb)
                    clear hb
                    go_wp2_with fail
                    go_ret2
                    exact ⟨tuple2 HJ.out rfl, HB.out⟩
                · have hG0 : srcG l i = ([], false) := if_neg (fun h => h1 h.2.1)
                  rw [hG0]
                  clear hG0
                  go_enter Tryz.func24, Tryz.ntmps24
                  go_wp2_with fail
                  rw [HW0.out]
                  refine (HCl.out).mono ?_
                  rintro en w1 ⟨rfl, hb⟩
                  replace HB := Lib.hid (below_then' HB.out hb)
                  replace HR := Lib.hid (blk_below HR.out hb)
                  replace HG := Lib.hid (HG.out.below hb)
                  replace HC := Lib.hid (Kd.C_below HC.out hb)
                  clear hb
                  go_wp2_with fail
                  refine (HKi.out w1 HG.out).mono ?_
                  rintro en w2 ⟨rfl, hb⟩
                  replace HB := Lib.hid (below_then' HB.out hb)
                  replace HR := Lib.hid (blk_below HR.out hb)
                  replace HG := Lib.hid (HG.out.below hb)
                  replace HC := Lib.hid (Kd.C_below HC.out hb)
                  clear hb
                  have j0 : w2.cell? ⟨w.heap.size, 0, none⟩ = some (.bool false) := blk_cell HR.out 0
                  have j3 : w2.cell? ⟨w.heap.size, 3, none⟩ = some (.slice A l.length c) := blk_cell HR.out 3
                  go_wp2_with fail
                  refine (HPre.out w2).mono ?_
                  rintro en w3 ⟨rfl, rfl⟩
                  go_wp2_with fail
                  refine (HAtoi.out w2 HG.out).mono ?_
                  rintro en w3 ⟨⟨i', er, rfl, hcase⟩, hb⟩
                  have hci : i' = i ∧ er = .nilIface := by
                    rcases hcase with ⟨h, h2⟩ | ⟨h, _⟩
                    · injection h with h
                      exact ⟨h.symm, h2⟩
                    · cases h
                  clear hcase
                  obtain ⟨hci1, rfl⟩ := hci
                  obtain rfl := hci1.symm
                  replace HB := Lib.hid (below_then' HB.out hb)
                  replace HR := Lib.hid (blk_below HR.out hb)
                  replace HG := Lib.hid (HG.out.below hb)
                  replace HC := Lib.hid (Kd.C_below HC.out hb)
                  clear hb
                  go_wp2_with fail
                  refine (HIs.out w3 HG.out).mono ?_
                  rintro en w4 ⟨rfl, hb⟩
                  replace HB := Lib.hid (below_then' HB.out hb)
                  replace HR := Lib.hid (blk_below HR.out hb)
                  replace HG := Lib.hid (HG.out.below hb)
                  replace HC := Lib.hid (Kd.C_below HC.out hb)
                  clear hb
                  have j0 : w4.cell? ⟨w.heap.size, 0, none⟩ = some (.bool false) := blk_cell HR.out 0
                  have j3 : w4.cell? ⟨w.heap.size, 3, none⟩ = some (.slice A l.length c) := blk_cell HR.out 3
                  go_wp2_with fail
                  go_ret2
                  exact ⟨rfl, HB.out⟩
              · have hG0 : srcG l i = ([], false) := if_neg (fun h => h0 h.1)
                rw [hG0]
                clear hG0
                go_enter Tryz.func24, Tryz.ntmps24
                go_wp2_with fail
                rw [HW0.out]
                refine (HCl.out).mono ?_
                rintro en w1 ⟨rfl, hb⟩
                replace HB := Lib.hid (below_then' HB.out hb)
                replace HR := Lib.hid (blk_below HR.out hb)
                replace HG := Lib.hid (HG.out.below hb)
                replace HC := Lib.hid (Kd.C_below HC.out hb)
                clear hb
                go_wp2_with fail
                refine (HKi.out w1 HG.out).mono ?_
                rintro en w2 ⟨rfl, hb⟩
                replace HB := Lib.hid (below_then' HB.out hb)
                replace HR := Lib.hid (blk_below HR.out hb)
                replace HG := Lib.hid (HG.out.below hb)
                replace HC := Lib.hid (Kd.C_below HC.out hb)
                clear hb
                have j0 : w2.cell? ⟨w.heap.size, 0, none⟩ = some (.bool false) := blk_cell HR.out 0
                have j3 : w2.cell? ⟨w.heap.size, 3, none⟩ = some (.slice A l.length c) := blk_cell HR.out 3
                go_wp2_with fail
                refine (HPre.out w2).mono ?_
                rintro en w3 ⟨rfl, rfl⟩
                go_wp2_with fail
                refine (HAtoi.out w2 HG.out).mono ?_
                rintro en w3 ⟨⟨i', er, rfl, hcase⟩, hb⟩
                have hci : i' = i ∧ er = .nilIface := by
                  rcases hcase with ⟨h, h2⟩ | ⟨h, _⟩
                  · injection h with h
                    exact ⟨h.symm, h2⟩
                  · cases h
                clear hcase
                obtain ⟨hci1, rfl⟩ := hci
                obtain rfl := hci1.symm
                replace HB := Lib.hid (below_then' HB.out hb)
                replace HR := Lib.hid (blk_below HR.out hb)
                replace HG := Lib.hid (HG.out.below hb)
                replace HC := Lib.hid (Kd.C_below HC.out hb)
                clear hb
                go_wp2_with fail
                refine (HIs.out w3 HG.out).mono ?_
                rintro en w4 ⟨rfl, hb⟩
                replace HB := Lib.hid (below_then' HB.out hb)
                replace HR := Lib.hid (blk_below HR.out hb)
                replace HG := Lib.hid (HG.out.below hb)
                replace HC := Lib.hid (Kd.C_below HC.out hb)
                clear hb
                have j0 : w4.cell? ⟨w.heap.size, 0, none⟩ = some (.bool false) := blk_cell HR.out 0
                have j3 : w4.cell? ⟨w.heap.size, 3, none⟩ = some (.slice A l.length c) := blk_cell HR.out 3
                go_wp2_with fail
                go_ret2
                exact ⟨rfl, HB.out⟩
            · have hd : (cb.toList == ((⟨#[97, 116, 116, 58]⟩ : ByteArray) ++ tb).toList) = false := by rw [htl, ByteArray.toList_eq]; simpa using he
              have hG0 : srcG l (-1) = ([], false) := if_neg (fun h => absurd h.1 (by decide))
              rw [HEq.out.2 he, hG0]
              clear he htl HEq hG0
              go_enter Tryz.func24, Tryz.ntmps24
              go_wp2_with fail
              rw [HW0.out]
              refine (HCl.out).mono ?_
              rintro en w1 ⟨rfl, hb⟩
              replace HB := Lib.hid (below_then' HB.out hb)
              replace HR := Lib.hid (blk_below HR.out hb)
              replace HG := Lib.hid (HG.out.below hb)
              replace HC := Lib.hid (Kd.C_below HC.out hb)
              clear hb
              go_wp2_with fail
              refine (HKi.out w1 HG.out).mono ?_
              rintro en w2 ⟨rfl, hb⟩
              replace HB := Lib.hid (below_then' HB.out hb)
              replace HR := Lib.hid (blk_below HR.out hb)
              replace HG := Lib.hid (HG.out.below hb)
              replace HC := Lib.hid (Kd.C_below HC.out hb)
              clear hb
              have j0 : w2.cell? ⟨w.heap.size, 0, none⟩ = some (.bool false) := blk_cell HR.out 0
              have j3 : w2.cell? ⟨w.heap.size, 3, none⟩ = some (.slice A l.length c) := blk_cell HR.out 3
              go_wp2_with fail
              refine (HPre.out w2).mono ?_
              rintro en w3 ⟨rfl, rfl⟩
              go_wp2_with fail
              refine (HAtoi.out w2 HG.out).mono ?_
              rintro en w3 ⟨⟨i', er, rfl, hcase⟩, hb⟩
              have hci : i' = i ∧ er = .nilIface := by
                rcases hcase with ⟨h, h2⟩ | ⟨h, _⟩
                · injection h with h
                  exact ⟨h.symm, h2⟩
                · cases h
              clear hcase
              obtain ⟨hci1, rfl⟩ := hci
              obtain rfl := hci1.symm
              replace HB := Lib.hid (below_then' HB.out hb)
              replace HR := Lib.hid (blk_below HR.out hb)
              replace HG := Lib.hid (HG.out.below hb)
              replace HC := Lib.hid (Kd.C_below HC.out hb)
              clear hb
              go_wp2_with fail
              refine (HIs.out w3 HG.out).mono ?_
              rintro en w4 ⟨rfl, hb⟩
              replace HB := Lib.hid (below_then' HB.out hb)
              replace HR := Lib.hid (blk_below HR.out hb)
              replace HG := Lib.hid (HG.out.below hb)
              replace HC := Lib.hid (Kd.C_below HC.out hb)
              clear hb
              have j0 : w4.cell? ⟨w.heap.size, 0, none⟩ = some (.bool false) := blk_cell HR.out 0
              have j3 : w4.cell? ⟨w.heap.size, 3, none⟩ = some (.slice A l.length c) := blk_cell HR.out 3
              go_wp2_with fail
              go_ret2
              exact ⟨rfl, HB.out⟩
        · have hk2b : (k == 2) = false := by simp [hk2]
          have hk4b : (k == 4) = false := by simp [hk4]
          clear HK2 hk2 hk4
          rw [if_pos rfl]
          have hs4 := hsz rfl
          clear hsz
          have hx : (cb.extract 4 cb.size).data.toList = cb.data.toList.drop 4 := extract_drop cb 4
          have hxs : (cb.extract 4 cb.size).size < 4294967281 := by rw [Lib.size_eq, hx, List.length_drop, ← Lib.size_eq]; omega
          replace HAtoi := Lib.hid (fun w1 h => HAtoi.out (cb.extract 4 cb.size) w1 h hxs)
          rw [hx] at HAtoi
          cases ha : atoiF (cb.data.toList.drop 4) with
          | none =>
            have hn : attN cb.data.toList = -1 := by unfold attN; rw [ha]
            have hG0 : srcG l (-1) = ([], false) := if_neg (fun h => absurd h.1 (by decide))
            rw [hn, hG0]
            rw [ha] at HAtoi
            clear hn hG0 hx hxs ha
            go_enter Tryz.func24, Tryz.ntmps24
            go_wp2_with fail
            rw [HW0.out]
            refine (HCl.out).mono ?_
            rintro en w1 ⟨rfl, hb⟩
            replace HB := Lib.hid (below_then' HB.out hb)
            replace HR := Lib.hid (blk_below HR.out hb)
            replace HG := Lib.hid (HG.out.below hb)
            replace HC := Lib.hid (Kd.C_below HC.out hb)
            clear hb
            go_wp2_with fail
            refine (HKi.out w1 HG.out).mono ?_
            rintro en w2 ⟨rfl, hb⟩
            replace HB := Lib.hid (below_then' HB.out hb)
            replace HR := Lib.hid (blk_below HR.out hb)
            replace HG := Lib.hid (HG.out.below hb)
            replace HC := Lib.hid (Kd.C_below HC.out hb)
            clear hb
            have j0 : w2.cell? ⟨w.heap.size, 0, none⟩ = some (.bool b1) := blk_cell HR.out 0
            have j3 : w2.cell? ⟨w.heap.size, 3, none⟩ = some (.slice A l.length c) := blk_cell HR.out 3
            go_wp2_with fail
            refine (HPre.out w2).mono ?_
            rintro en w3 ⟨rfl, rfl⟩
            go_wp2_with fail
            refine (HAtoi.out w2 HG.out).mono ?_
            rintro en w3 ⟨⟨i, er, rfl, hcase⟩, hb⟩
            rcases hcase with ⟨h, _⟩ | ⟨_, t, p, rfl⟩
            · cases h
            replace HB := Lib.hid (below_then' HB.out hb)
            clear hb
            go_wp2_with fail
            go_ret2
            exact ⟨rfl, HB.out⟩
          | some i =>
            have hib := atoiF_bounds ha
            rw [ha] at HAtoi
            have HEq := Lib.hid (show (cb.data.toList = attB ++ Lib.itoa i → attN cb.data.toList = i) ∧ (¬ cb.data.toList = attB ++ Lib.itoa i → attN cb.data.toList = -1) from ⟨fun h => by unfold attN; rw [ha]; exact if_pos h, fun h => by unfold attN; rw [ha]; exact if_neg h⟩)
            clear hx hxs ha
            have HIs := Lib.hid (fun w1 h => HItoa.out i w1 h hib.1 hib.2)
            obtain ⟨tb, htb⟩ : ∃ tb : ByteArray, (⟨(Lib.itoa i).toArray⟩ : ByteArray) = tb := ⟨_, rfl⟩
            have htl : (((⟨#[97, 116, 116, 58]⟩ : ByteArray) ++ tb).toList) = attB ++ Lib.itoa i := by
              rw [← htb, ByteArray.toList_eq]
              simp [ByteArray.data_append, attB]
            have hts : tb.size ≤ 21 := by rw [← htb, size_mk]; exact Lib.itoa_length_le i hib.1 hib.2
            rw [htb] at HIs
            clear htb
            by_cases he : cb.data.toList = attB ++ Lib.itoa i
            · have hd : (cb.toList == ((⟨#[97, 116, 116, 58]⟩ : ByteArray) ++ tb).toList) = true := by rw [htl, ByteArray.toList_eq, he]; simp
              rw [HEq.out.1 he]
              clear he htl HEq
              by_cases h0 : 0 ≤ i
              · by_cases h1 : i < l.length
                · have HI := Lib.hid (fun wx => hasP_any (rd_T39 l i).f1 ⟨#[105, 109, 97, 103, 101, 47]⟩ wx)
                  obtain ⟨q, hq⟩ : ∃ q, Lib.hasPrefix (rd_T39 l i).f1.data.toList (⟨#[105, 109, 97, 103, 101, 47]⟩ : ByteArray).data.toList = q := ⟨_, rfl⟩
                  rw [hq] at HI
                  have hG : srcG l i = if q = true then (attB ++ Lib.itoa i, true) else ([], false) := by
                    rw [← hq]
                    unfold srcG
                    by_cases hh : Lib.hasPrefix (rd_T39 l i).f1.data.toList (⟨#[105, 109, 97, 103, 101, 47]⟩ : ByteArray).data.toList = true
                    · rw [if_pos ⟨h0, h1, hh⟩, if_pos hh]
                    · rw [if_neg (fun h => hh h.2.2), if_neg hh]
                  rw [hG]
                  clear hq hG
                  cases q with
                  | false =>
                    rw [if_neg (by decide)]
                    go_enter Tryz.func24, Tryz.ntmps24
                    go_wp2_with fail
                    rw [HW0.out]
                    refine (HCl.out).mono ?_
                    rintro en w1 ⟨rfl, hb⟩
                    replace HB := Lib.hid (below_then' HB.out hb)
                    replace HR := Lib.hid (blk_below HR.out hb)
                    replace HG := Lib.hid (HG.out.below hb)
                    replace HC := Lib.hid (Kd.C_below HC.out hb)
                    clear hb
                    go_wp2_with fail
                    refine (HKi.out w1 HG.out).mono ?_
                    rintro en w2 ⟨rfl, hb⟩
                    replace HB := Lib.hid (below_then' HB.out hb)
                    replace HR := Lib.hid (blk_below HR.out hb)
                    replace HG := Lib.hid (HG.out.below hb)
                    replace HC := Lib.hid (Kd.C_below HC.out hb)
                    clear hb
                    have j0 : w2.cell? ⟨w.heap.size, 0, none⟩ = some (.bool b1) := blk_cell HR.out 0
                    have j3 : w2.cell? ⟨w.heap.size, 3, none⟩ = some (.slice A l.length c) := blk_cell HR.out 3
                    go_wp2_with fail
                    refine (HPre.out w2).mono ?_
                    rintro en w3 ⟨rfl, rfl⟩
                    go_wp2_with fail
                    refine (HAtoi.out w2 HG.out).mono ?_
                    rintro en w3 ⟨⟨i', er, rfl, hcase⟩, hb⟩
                    have hci : i' = i ∧ er = .nilIface := by
                      rcases hcase with ⟨h, h2⟩ | ⟨h, _⟩
                      · injection h with h
                        exact ⟨h.symm, h2⟩
                      · cases h
                    clear hcase
                    obtain ⟨hci1, rfl⟩ := hci
                    obtain rfl := hci1.symm
                    replace HB := Lib.hid (below_then' HB.out hb)
                    replace HR := Lib.hid (blk_below HR.out hb)
                    replace HG := Lib.hid (HG.out.below hb)
                    replace HC := Lib.hid (Kd.C_below HC.out hb)
                    clear hb
                    go_wp2_with fail
                    refine (HIs.out w3 HG.out).mono ?_
                    rintro en w4 ⟨rfl, hb⟩
                    replace HB := Lib.hid (below_then' HB.out hb)
                    replace HR := Lib.hid (blk_below HR.out hb)
                    replace HG := Lib.hid (HG.out.below hb)
                    replace HC := Lib.hid (Kd.C_below HC.out hb)
                    clear hb
                    have j0 : w4.cell? ⟨w.heap.size, 0, none⟩ = some (.bool b1) := blk_cell HR.out 0
                    have j3 : w4.cell? ⟨w.heap.size, 3, none⟩ = some (.slice A l.length c) := blk_cell HR.out 3
                    obtain ⟨ad, rfl, c0, c1, c2, c3⟩ := at_T39 HC.out i h0 h1
                    clear c0 c2 c3
                    go_wp2_with fail
                    refine (HI.out w4).mono ?_
                    rintro en w' ⟨rfl, rfl⟩
                    go_wp2_with fail
                    go_ret2
                    exact ⟨rfl, HB.out⟩
                  | true =>
                    rw [if_pos rfl]
                    have hil := Lib.itoa_length_le i (by omega) (by omega)
                    rw [← size_mk] at hil
                    have HIa := Lib.hid (fun w1 h => HItoa.out i w1 h (by omega) (by omega))
                    have HJ := Lib.hid (str_join attB (Lib.itoa i))
                    obtain ⟨ib, hib2⟩ : ∃ ib : ByteArray, (⟨(Lib.itoa i).toArray⟩ : ByteArray) = ib := ⟨_, rfl⟩
                    rw [hib2] at hil HIa HJ
                    clear hib2
                    go_enter Tryz.func24, Tryz.ntmps24
                    go_wp2_with fail
                    rw [HW0.out]
                    refine (HCl.out).mono ?_
                    rintro en w1 ⟨rfl, hb⟩
                    replace HB := Lib.hid (below_then' HB.out hb)
                    replace HR := Lib.hid (blk_below HR.out hb)
                    replace HG := Lib.hid (HG.out.below hb)
                    replace HC := Lib.hid (Kd.C_below HC.out hb)
                    clear hb
                    go_wp2_with fail
                    refine (HKi.out w1 HG.out).mono ?_
                    rintro en w2 ⟨rfl, hb⟩
                    replace HB := Lib.hid (below_then' HB.out hb)
                    replace HR := Lib.hid (blk_below HR.out hb)
                    replace HG := Lib.hid (HG.out.below hb)
                    replace HC := Lib.hid (Kd.C_below HC.out hb)
                    clear hb
                    have j0 : w2.cell? ⟨w.heap.size, 0, none⟩ = some (.bool b1) := blk_cell HR.out 0
                    have j3 : w2.cell? ⟨w.heap.size, 3, none⟩ = some (.slice A l.length c) := blk_cell HR.out 3
                    go_wp2_with fail
                    refine (HPre.out w2).mono ?_
                    rintro en w3 ⟨rfl, rfl⟩
                    go_wp2_with fail
                    refine (HAtoi.out w2 HG.out).mono ?_
                    rintro en w3 ⟨⟨i', er, rfl, hcase⟩, hb⟩
                    have hci : i' = i ∧ er = .nilIface := by
                      rcases hcase with ⟨h, h2⟩ | ⟨h, _⟩
                      · injection h with h
                        exact ⟨h.symm, h2⟩
                      · cases h
                    clear hcase
                    obtain ⟨hci1, rfl⟩ := hci
                    obtain rfl := hci1.symm
                    replace HB := Lib.hid (below_then' HB.out hb)
                    replace HR := Lib.hid (blk_below HR.out hb)
                    replace HG := Lib.hid (HG.out.below hb)
                    replace HC := Lib.hid (Kd.C_below HC.out hb)
                    clear hb
                    go_wp2_with fail
                    refine (HIs.out w3 HG.out).mono ?_
                    rintro en w4 ⟨rfl, hb⟩
                    replace HB := Lib.hid (below_then' HB.out hb)
                    replace HR := Lib.hid (blk_below HR.out hb)
                    replace HG := Lib.hid (HG.out.below hb)
                    replace HC := Lib.hid (Kd.C_below HC.out hb)
                    clear hb
                    have j0 : w4.cell? ⟨w.heap.size, 0, none⟩ = some (.bool b1) := blk_cell HR.out 0
                    have j3 : w4.cell? ⟨w.heap.size, 3, none⟩ = some (.slice A l.length c) := blk_cell HR.out 3
                    obtain ⟨ad, rfl, c0, c1, c2, c3⟩ := at_T39 HC.out i h0 h1
                    clear c0 c2 c3
                    go_wp2_with fail
                    refine (HI.out w4).mono ?_
                    rintro en w' ⟨rfl, rfl⟩
                    go_wp2_with fail
                    refine (HIa.out _ HG.out).mono ?_
                    rintro en w5 ⟨rfl, hb⟩
                    replace HB := Lib.hid (below_then' HB.out hb)
                    replace HR := Lib.hid (blk_below HR.out hb)
                    replace HG := Lib.hid (HG.out.below hb)
                    replace HC := Lib.hid (Kd.C_below HC.out hb)
                    clear hb
                    go_wp2_with fail
                    go_ret2
                    exact ⟨tuple2 HJ.out rfl, HB.out⟩
                · have hG0 : srcG l i = ([], false) := if_neg (fun h => h1 h.2.1)
                  rw [hG0]
                  clear hG0
                  go_enter Tryz.func24, Tryz.ntmps24
                  go_wp2_with fail
                  rw [HW0.out]
                  refine (HCl.out).mono ?_
                  rintro en w1 ⟨rfl, hb⟩
                  replace HB := Lib.hid (below_then' HB.out hb)
                  replace HR := Lib.hid (blk_below HR.out hb)
                  replace HG := Lib.hid (HG.out.below hb)
                  replace HC := Lib.hid (Kd.C_below HC.out hb)
                  clear hb
                  go_wp2_with fail
                  refine (HKi.out w1 HG.out).mono ?_
                  rintro en w2 ⟨rfl, hb⟩
                  replace HB := Lib.hid (below_then' HB.out hb)
                  replace HR := Lib.hid (blk_below HR.out hb)
                  replace HG := Lib.hid (HG.out.below hb)
                  replace HC := Lib.hid (Kd.C_below HC.out hb)
                  clear hb
                  have j0 : w2.cell? ⟨w.heap.size, 0, none⟩ = some (.bool b1) := blk_cell HR.out 0
                  have j3 : w2.cell? ⟨w.heap.size, 3, none⟩ = some (.slice A l.length c) := blk_cell HR.out 3
                  go_wp2_with fail
                  refine (HPre.out w2).mono ?_
                  rintro en w3 ⟨rfl, rfl⟩
                  go_wp2_with fail
                  refine (HAtoi.out w2 HG.out).mono ?_
                  rintro en w3 ⟨⟨i', er, rfl, hcase⟩, hb⟩
                  have hci : i' = i ∧ er = .nilIface := by
                    rcases hcase with ⟨h, h2⟩ | ⟨h, _⟩
                    · injection h with h
                      exact ⟨h.symm, h2⟩
                    · cases h
                  clear hcase
                  obtain ⟨hci1, rfl⟩ := hci
                  obtain rfl := hci1.symm
                  replace HB := Lib.hid (below_then' HB.out hb)
                  replace HR := Lib.hid (blk_below HR.out hb)
                  replace HG := Lib.hid (HG.out.below hb)
                  replace HC := Lib.hid (Kd.C_below HC.out hb)
                  clear hb
                  go_wp2_with fail
                  refine (HIs.out w3 HG.out).mono ?_
                  rintro en w4 ⟨rfl, hb⟩
                  replace HB := Lib.hid (below_then' HB.out hb)
                  replace HR := Lib.hid (blk_below HR.out hb)
                  replace HG := Lib.hid (HG.out.below hb)
                  replace HC := Lib.hid (Kd.C_below HC.out hb)
                  clear hb
                  have j0 : w4.cell? ⟨w.heap.size, 0, none⟩ = some (.bool b1) := blk_cell HR.out 0
                  have j3 : w4.cell? ⟨w.heap.size, 3, none⟩ = some (.slice A l.length c) := blk_cell HR.out 3
                  go_wp2_with fail
                  go_ret2
                  exact ⟨rfl, HB.out⟩
              · have hG0 : srcG l i = ([], false) := if_neg (fun h => h0 h.1)
                rw [hG0]
                clear hG0
                go_enter Tryz.func24, Tryz.ntmps24
                go_wp2_with fail
                rw [HW0.out]
                refine (HCl.out).mono ?_
                rintro en w1 ⟨rfl, hb⟩
                replace HB := Lib.hid (below_then' HB.out hb)
                replace HR := Lib.hid (blk_below HR.out hb)
                replace HG := Lib.hid (HG.out.below hb)
                replace HC := Lib.hid (Kd.C_below HC.out hb)
                clear hb
                go_wp2_with fail
                refine (HKi.out w1 HG.out).mono ?_
                rintro en w2 ⟨rfl, hb⟩
                replace HB := Lib.hid (below_then' HB.out hb)
                replace HR := Lib.hid (blk_below HR.out hb)
                replace HG := Lib.hid (HG.out.below hb)
                replace HC := Lib.hid (Kd.C_below HC.out hb)
                clear hb
                have j0 : w2.cell? ⟨w.heap.size, 0, none⟩ = some (.bool b1) := blk_cell HR.out 0
                have j3 : w2.cell? ⟨w.heap.size, 3, none⟩ = some (.slice A l.length c) := blk_cell HR.out 3
                go_wp2_with fail
                refine (HPre.out w2).mono ?_
                rintro en w3 ⟨rfl, rfl⟩
                go_wp2_with fail
                refine (HAtoi.out w2 HG.out).mono ?_
                rintro en w3 ⟨⟨i', er, rfl, hcase⟩, hb⟩
                have hci : i' = i ∧ er = .nilIface := by
                  rcases hcase with ⟨h, h2⟩ | ⟨h, _⟩
                  · injection h with h
                    exact ⟨h.symm, h2⟩
                  · cases h
                clear hcase
                obtain ⟨hci1, rfl⟩ := hci
                obtain rfl := hci1.symm
                replace HB := Lib.hid (below_then' HB.out hb)
                replace HR := Lib.hid (blk_below HR.out hb)
                replace HG := Lib.hid (HG.out.below hb)
                replace HC := Lib.hid (Kd.C_below HC.out hb)
                clear hb
                go_wp2_with fail
                refine (HIs.out w3 HG.out).mono ?_
                rintro en w4 ⟨rfl, hb⟩
                replace HB := Lib.hid (below_then' HB.out hb)
                replace HR := Lib.hid (blk_below HR.out hb)
                replace HG := Lib.hid (HG.out.below hb)
                replace HC := Lib.hid (Kd.C_below HC.out hb)
                clear hb
                have j0 : w4.cell? ⟨w.heap.size, 0, none⟩ = some (.bool b1) := blk_cell HR.out 0
                have j3 : w4.cell? ⟨w.heap.size, 3, none⟩ = some (.slice A l.length c) := blk_cell HR.out 3
                go_wp2_with fail
                go_ret2
                exact ⟨rfl, HB.out⟩
            · have hd : (cb.toList == ((⟨#[97, 116, 116, 58]⟩ : ByteArray) ++ tb).toList) = false := by rw [htl, ByteArray.toList_eq]; simpa using he
              have hG0 : srcG l (-1) = ([], false) := if_neg (fun h => absurd h.1 (by decide))
              rw [HEq.out.2 he, hG0]
              clear he htl HEq hG0
              go_enter Tryz.func24, Tryz.ntmps24
              go_wp2_with fail
              rw [HW0.out]
              refine (HCl.out).mono ?_
              rintro en w1 ⟨rfl, hb⟩
              replace HB := Lib.hid (below_then' HB.out hb)
              replace HR := Lib.hid (blk_below HR.out hb)
              replace HG := Lib.hid (HG.out.below hb)
              replace HC := Lib.hid (Kd.C_below HC.out hb)
              clear hb
              go_wp2_with fail
              refine (HKi.out w1 HG.out).mono ?_
              rintro en w2 ⟨rfl, hb⟩
              replace HB := Lib.hid (below_then' HB.out hb)
              replace HR := Lib.hid (blk_below HR.out hb)
              replace HG := Lib.hid (HG.out.below hb)
              replace HC := Lib.hid (Kd.C_below HC.out hb)
              clear hb
              have j0 : w2.cell? ⟨w.heap.size, 0, none⟩ = some (.bool b1) := blk_cell HR.out 0
              have j3 : w2.cell? ⟨w.heap.size, 3, none⟩ = some (.slice A l.length c) := blk_cell HR.out 3
              go_wp2_with fail
              refine (HPre.out w2).mono ?_
              rintro en w3 ⟨rfl, rfl⟩
              go_wp2_with fail
              refine (HAtoi.out w2 HG.out).mono ?_
              rintro en w3 ⟨⟨i', er, rfl, hcase⟩, hb⟩
              have hci : i' = i ∧ er = .nilIface := by
                rcases hcase with ⟨h, h2⟩ | ⟨h, _⟩
                · injection h with h
                  exact ⟨h.symm, h2⟩
                · cases h
              clear hcase
              obtain ⟨hci1, rfl⟩ := hci
              obtain rfl := hci1.symm
              replace HB := Lib.hid (below_then' HB.out hb)
              replace HR := Lib.hid (blk_below HR.out hb)
              replace HG := Lib.hid (HG.out.below hb)
              replace HC := Lib.hid (Kd.C_below HC.out hb)
              clear hb
              go_wp2_with fail
              refine (HIs.out w3 HG.out).mono ?_
              rintro en w4 ⟨rfl, hb⟩
              replace HB := Lib.hid (below_then' HB.out hb)
              replace HR := Lib.hid (blk_below HR.out hb)
              replace HG := Lib.hid (HG.out.below hb)
              replace HC := Lib.hid (Kd.C_below HC.out hb)
              clear hb
              have j0 : w4.cell? ⟨w.heap.size, 0, none⟩ = some (.bool b1) := blk_cell HR.out 0
              have j3 : w4.cell? ⟨w.heap.size, 3, none⟩ = some (.slice A l.length c) := blk_cell HR.out 3
              go_wp2_with fail
              go_ret2
              exact ⟨rfl, HB.out⟩
end Go.Proofs.YtchooidhieaphaaGreatDoor
set_option linter.unusedVariables false
set_option linter.unusedSimpArgs false
namespace Go.Proofs.YtchooidhieaphaaGreatDoor
open Go.RowKit Go.Proofs.YtchooidhieaphaaGreatDoorW.PrintWords PRulesValues
theorem hrefF_off (v : List UInt8) (h : (hrefF v).2 = false) : (hrefF v).1 = [] := by
  unfold hrefF at h ⊢
  split at h
  · simp at h
  · rw [if_neg (by assumption)]
theorem srcF_off (b : Bool) (l : List S39) (v : List UInt8) (h : (srcF b l v).2 = false) : (srcF b l v).1 = [] := by
  unfold srcF srcG at h ⊢
  split at h
  · simp at h
  · rw [if_neg (by assumption)]
    split at h
    · simp at h
    · rw [if_neg (by assumption)]
theorem off_same {p : List UInt8 × Bool} (h : p.2 = false → p.1 = []) : (if p.2 then Value.tuple #[.string ⟨p.1.toArray⟩, .bool true] else .tuple #[.string ⟨#[]⟩, .bool false]) = .tuple #[.string ⟨p.1.toArray⟩, .bool p.2] := by
  cases hp : p.2 with
  | false => rw [h hp]; rfl
  | true => rfl
theorem value_href (b1 b2 b3 : Bool) (A : Option Addr) (n c : Nat) (e v : ByteArray) (w : World) (hG : Good w) (he : e.size < 4294967281) (hv : v.size < 4294967281) (h1 : attrF e.data.toList [104, 114, 101, 102] = true) :
    Calls Tryz.prog 14 #[.agg #[.bool b1, .bool b2, .bool b3], .slice A n c, .string e, .agg #[.string ⟨#[104, 114, 101, 102]⟩, .string v]] w fun en w' => en = .returned (.tuple #[.string ⟨(hrefF v.data.toList).1.toArray⟩, .bool (hrefF v.data.toList).2]) ∧ Below w.heap.size w w' := by
  refine (value_walk b1 b2 b3 A n c e ⟨#[104, 114, 101, 102]⟩ v ⟨(hrefF v.data.toList).1.toArray⟩ (hrefF v.data.toList).2 23 w hG he (by decide) h1 (by rfl) (fun args w => (by kernel_rfl)) (fun w1 hb => href_any b1 b2 b3 A n c v w1 (hG.below hb) hv)).mono ?_
  rintro en w' ⟨rfl, hb⟩
  exact ⟨congrArg Ending.returned (off_same (hrefF_off _)), hb⟩
theorem value_src (b1 b2 b3 : Bool) (A : Option Addr) (c : Nat) (l : List S39) (e v : ByteArray) (w : World) (hG : Good w) (he : e.size < 4294967281) (hv : v.size < 4294967281) (hC : Kd.C k39 w A l.length l) (hl : l.length < 9223372036854775807) (h1 : attrF e.data.toList [115, 114, 99] = true) :
    Calls Tryz.prog 14 #[.agg #[.bool b1, .bool b2, .bool b3], .slice A l.length c, .string e, .agg #[.string ⟨#[115, 114, 99]⟩, .string v]] w fun en w' => en = .returned (.tuple #[.string ⟨(srcF b1 l v.data.toList).1.toArray⟩, .bool (srcF b1 l v.data.toList).2]) ∧ Below w.heap.size w w' := by
  refine (value_walk b1 b2 b3 A l.length c e ⟨#[115, 114, 99]⟩ v ⟨(srcF b1 l v.data.toList).1.toArray⟩ (srcF b1 l v.data.toList).2 24 w hG he (by decide) h1 (by rfl) (fun args w => (by kernel_rfl)) (fun w1 hb => src_any b1 b2 b3 A c l v w1 (hG.below hb) hv (Kd.C_below hC hb) hl)).mono ?_
  rintro en w' ⟨rfl, hb⟩
  exact ⟨congrArg Ending.returned (off_same (srcF_off _ _ _)), hb⟩
/-- The two parts of the law's own trial. -/
def two : List S39 := [⟨⟨#[]⟩, ⟨#[116, 101, 120, 116, 47, 99, 115, 115]⟩, ⟨#[121]⟩, ⟨#[]⟩⟩, ⟨⟨#[]⟩, ⟨#[105, 109, 97, 103, 101, 47, 112, 110, 103]⟩, ⟨#[120]⟩, ⟨#[]⟩⟩]
set_option maxRecDepth 100000 in
theorem two_one : srcF false two [67, 73, 68, 58, 120] = ([97, 116, 116, 58, 49], true) := by decide +kernel
set_option maxRecDepth 100000 in
theorem two_two : srcF false two [99, 105, 100, 58, 121] = ([], false) := by decide +kernel
set_option maxRecDepth 100000 in
theorem far_one : hrefF [32, 104, 116, 116, 112, 115, 58, 47, 47, 104, 10, 47] = ([104, 116, 116, 112, 115, 58, 47, 47, 104, 47], true) := by decide +kernel
set_option maxRecDepth 100000 in
theorem far_two : hrefF [106, 97, 118, 97, 115, 99, 114, 105, 112, 116, 58, 120] = ([], false) := by decide +kernel
set_option maxRecDepth 100000 in
theorem block_one : blockF false [105, 109, 103] [115, 114, 99] [104, 116, 116, 112, 58, 47, 47, 104] = true := by decide +kernel
theorem attr_one : attrF [97] [104, 114, 101, 102] = true := by decide +kernel
theorem attr_two : attrF [105, 109, 103] [115, 114, 99] = true := by decide +kernel
theorem attr_three : attrF [97] [111, 110, 99, 108, 105, 99, 107] = false := by decide +kernel
theorem elem_b : elemF [98] = 2 := by decide +kernel
theorem elem_script : elemF [115, 99, 114, 105, 112, 116] = 0 := by decide +kernel
theorem elem_font : elemF [102, 111, 110, 116] = 1 := by decide +kernel
def rowTwo : Array Value := #[.string ⟨#[]⟩, .string ⟨#[116, 101, 120, 116, 47, 99, 115, 115]⟩, .string ⟨#[121]⟩, .string ⟨#[]⟩, .string ⟨#[]⟩, .string ⟨#[105, 109, 97, 103, 101, 47, 112, 110, 103]⟩, .string ⟨#[120]⟩, .string ⟨#[]⟩]
theorem two_C (w : World) : Kd.C k39 (w.alloc (.cells rowTwo 39)) (some ⟨w.heap.size, 0, none⟩) two.length two := by
  refine ⟨rfl, by decide, fun _ => ⟨_, rfl, fun j p hp => ?_⟩⟩
  match j, hp with
  | 0, hp =>
    injection hp with hp
    subst hp
    refine ⟨_, rfl, k39_mk _ _, fun i u hu => ?_⟩
    rw [Addr.add_lit]
    refine alloc_cell w rowTwo 39 (0 + (0 * 4 + i)) u ?_
    match i, hu with
    | 0, hu => exact hu
    | 1, hu => exact hu
    | 2, hu => exact hu
    | 3, hu => exact hu
    | n + 4, hu => simp at hu
  | 1, hp =>
    injection hp with hp
    subst hp
    refine ⟨_, rfl, k39_mk _ _, fun i u hu => ?_⟩
    rw [Addr.add_lit]
    refine alloc_cell w rowTwo 39 (0 + (1 * 4 + i)) u ?_
    match i, hu with
    | 0, hu => exact hu
    | 1, hu => exact hu
    | 2, hu => exact hu
    | 3, hu => exact hu
    | n + 4, hu => simp at hu
  | n + 2, hp => simp [two] at hp
set_option maxRecDepth 100000 in
set_option maxHeartbeats 3200000 in
theorem live_any (w : World) (hG : Good w) : Calls Tryz.prog 12 #[] w fun en w' => en = .returned (.bool true) ∧ Below w.heap.size w w' := by
  have hB : Below w.heap.size w (w.alloc (.cells rowTwo 39)) := (Below.refl _ _).alloc (Nat.le_refl _) _
  have HG0 := Lib.hid (hG.below hB)
  have HB0 := Lib.hid hB
  have H1 := Lib.hid (fun w1 (hb : Below w.heap.size w w1) (hC : Kd.C k39 w1 (some ⟨w.heap.size, 0, none⟩) two.length two) => by
    have := value_src false false false (some ⟨w.heap.size, 0, none⟩) 2 two ⟨#[105, 109, 103]⟩ ⟨#[67, 73, 68, 58, 120]⟩ w1 (hG.below hb) (by decide) (by decide) hC (by decide) attr_two
    rwa [show srcF false two (⟨#[67, 73, 68, 58, 120]⟩ : ByteArray).data.toList = ([97, 116, 116, 58, 49], true) from two_one] at this)
  have H2 := Lib.hid (fun w1 (hb : Below w.heap.size w w1) (hC : Kd.C k39 w1 (some ⟨w.heap.size, 0, none⟩) two.length two) => by
    have := value_src false false false (some ⟨w.heap.size, 0, none⟩) 2 two ⟨#[105, 109, 103]⟩ ⟨#[99, 105, 100, 58, 121]⟩ w1 (hG.below hb) (by decide) (by decide) hC (by decide) attr_two
    rwa [show srcF false two (⟨#[99, 105, 100, 58, 121]⟩ : ByteArray).data.toList = ([], false) from two_two] at this)
  have H3 := Lib.hid (fun w1 (hb : Below w.heap.size w w1) => by
    have := value_href false false false none 0 0 ⟨#[97]⟩ ⟨#[32, 104, 116, 116, 112, 115, 58, 47, 47, 104, 10, 47]⟩ w1 (hG.below hb) (by decide) (by decide) attr_one
    rwa [show hrefF (⟨#[32, 104, 116, 116, 112, 115, 58, 47, 47, 104, 10, 47]⟩ : ByteArray).data.toList = ([104, 116, 116, 112, 115, 58, 47, 47, 104, 47], true) from far_one] at this)
  have H4 := Lib.hid (fun w1 (hb : Below w.heap.size w w1) => by
    have := value_href false false false none 0 0 ⟨#[97]⟩ ⟨#[106, 97, 118, 97, 115, 99, 114, 105, 112, 116, 58, 120]⟩ w1 (hG.below hb) (by decide) (by decide) attr_one
    rwa [show hrefF (⟨#[106, 97, 118, 97, 115, 99, 114, 105, 112, 116, 58, 120]⟩ : ByteArray).data.toList = ([], false) from far_two] at this)
  have HE1 := Lib.hid (fun w1 (hb : Below w.heap.size w w1) => by
    have := element_any ⟨#[98]⟩ w1 (hG.below hb) (by decide)
    rwa [show elemF (⟨#[98]⟩ : ByteArray).data.toList = 2 from elem_b] at this)
  have HE2 := Lib.hid (fun w1 (hb : Below w.heap.size w w1) => by
    have := element_any ⟨#[115, 99, 114, 105, 112, 116]⟩ w1 (hG.below hb) (by decide)
    rwa [show elemF (⟨#[115, 99, 114, 105, 112, 116]⟩ : ByteArray).data.toList = 0 from elem_script] at this)
  have HE3 := Lib.hid (fun w1 (hb : Below w.heap.size w w1) => by
    have := element_any ⟨#[102, 111, 110, 116]⟩ w1 (hG.below hb) (by decide)
    rwa [show elemF (⟨#[102, 111, 110, 116]⟩ : ByteArray).data.toList = 1 from elem_font] at this)
  have HA1 := Lib.hid (fun w1 (hb : Below w.heap.size w w1) => by
    have := attr_any ⟨#[97]⟩ ⟨#[104, 114, 101, 102]⟩ w1 (hG.below hb) (by decide) (by decide)
    rwa [show attrF (⟨#[97]⟩ : ByteArray).data.toList (⟨#[104, 114, 101, 102]⟩ : ByteArray).data.toList = true from attr_one] at this)
  have HA2 := Lib.hid (fun w1 (hb : Below w.heap.size w w1) => by
    have := attr_any ⟨#[97]⟩ ⟨#[111, 110, 99, 108, 105, 99, 107]⟩ w1 (hG.below hb) (by decide) (by decide)
    rwa [show attrF (⟨#[97]⟩ : ByteArray).data.toList (⟨#[111, 110, 99, 108, 105, 99, 107]⟩ : ByteArray).data.toList = false from attr_three] at this)
  have HBl := Lib.hid (fun w1 (hb : Below w.heap.size w w1) => by
    have := blocked_any false false false ⟨#[105, 109, 103]⟩ ⟨#[115, 114, 99]⟩ ⟨#[104, 116, 116, 112, 58, 47, 47, 104]⟩ w1 (hG.below hb) (by decide)
    rwa [show blockF false (⟨#[105, 109, 103]⟩ : ByteArray).data.toList (⟨#[115, 114, 99]⟩ : ByteArray).data.toList (⟨#[104, 116, 116, 112, 58, 47, 47, 104]⟩ : ByteArray).data.toList = true from block_one] at this)
  clear hG hB
  go_enter Tryz.func12, Tryz.ntmps12
  go_wp2_with fail
  refine (H1.out _ HB0.out (two_C w)).mono ?_
  rintro en w1 ⟨rfl, hb⟩
  have HB1 := Lib.hid (below_then' HB0.out hb)
  have HC1 := Lib.hid (Kd.C_below (two_C w) hb)
  clear hb
  go_wp2_with fail
  refine (H2.out w1 HB1.out HC1.out).mono ?_
  rintro en w2 ⟨rfl, hb⟩
  have HB2 := Lib.hid (below_then' HB1.out hb)
  clear hb
  go_wp2_with fail
  refine (H3.out w2 HB2.out).mono ?_
  rintro en w3 ⟨rfl, hb⟩
  have HB3 := Lib.hid (below_then' HB2.out hb)
  clear hb
  go_wp2_with fail
  refine (H4.out w3 HB3.out).mono ?_
  rintro en w4 ⟨rfl, hb⟩
  have HB4 := Lib.hid (below_then' HB3.out hb)
  clear hb
  go_wp2_with fail
  refine (HE1.out w4 HB4.out).mono ?_
  rintro en w' ⟨rfl, rfl⟩
  go_wp2_with fail
  refine (HE2.out w4 HB4.out).mono ?_
  rintro en w' ⟨rfl, rfl⟩
  go_wp2_with fail
  refine (HE3.out w4 HB4.out).mono ?_
  rintro en w' ⟨rfl, rfl⟩
  go_wp2_with fail
  refine (HA1.out w4 HB4.out).mono ?_
  rintro en w5 ⟨rfl, hb⟩
  have HB5 := Lib.hid (below_then' HB4.out hb)
  clear hb
  go_wp2_with fail
  refine (HA2.out w5 HB5.out).mono ?_
  rintro en w6 ⟨rfl, hb⟩
  have HB6 := Lib.hid (below_then' HB5.out hb)
  clear hb
  go_wp2_with fail
  refine (HBl.out w6 HB6.out).mono ?_
  rintro en w7 ⟨rfl, hb⟩
  have HB7 := Lib.hid (below_then' HB6.out hb)
  clear hb
  go_wp2_with fail
  go_ret
  exact ⟨rfl, HB7.out⟩
end Go.Proofs.YtchooidhieaphaaGreatDoor
