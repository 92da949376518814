/- rules.Value returns what the named method tells, and nothing where the name does not stand. -/
import Derived.Test.YtchooidhieaphaaGreatDoorBlocked
set_option linter.unusedVariables false
set_option linter.unusedSimpArgs false
namespace Go.Proofs.YtchooidhieaphaaGreatDoor
open Go.RowKit Go.Proofs.YtchooidhieaphaaGreatDoorW.PrintWords Go.Maps

/-- The attribute's name to the method that judges it. -/
def methNs : List (List UInt8 × Nat) := [([104, 114, 101, 102], 23), ([115, 114, 99], 24), ([115, 116, 121, 108, 101], 25), ([100, 105, 114], 26), ([108, 97, 110, 103], 27), ([116, 105, 116, 108, 101], 28), ([97, 108, 116], 28)]
def methV (J : Value) (m : Nat) : Value := .func (.func m) #[J] #[]
def methL (J : Value) (k : Nat) : List (List UInt8 × Value) := (methNs.take k).map fun p => (p.1, methV J p.2)
def methOf (l : List UInt8) : Nat := methNs.foldl (fun z p => if l = p.1 then p.2 else z) 29
def known (l : List UInt8) : Bool := methNs.any fun p => decide (l = p.1)
theorem lookL_all (J : Value) (l : List UInt8) : ∀ (L : List (List UInt8 × Nat)) (m : Nat), lookL (L.map fun p => (p.1, methV J p.2)) l (methV J m) = methV J (L.foldl (fun z p => if l = p.1 then p.2 else z) m)
  | [], m => rfl
  | p :: L, m => by
    show lookL (L.map fun p => (p.1, methV J p.2)) l (if l = p.1 then methV J p.2 else methV J m) = methV J (L.foldl (fun z p => if l = p.1 then p.2 else z) (if l = p.1 then p.2 else m))
    by_cases e : l = p.1
    · rw [if_pos e, if_pos e]; exact lookL_all J l L _
    · rw [if_neg e, if_neg e]; exact lookL_all J l L _
theorem lookL_map (J : Value) (l : List UInt8) : ∀ (L : List (List UInt8 × Nat)) (m : Nat) (zz : Value),
    (L.any fun p => decide (l = p.1)) = true → lookL (L.map fun p => (p.1, methV J p.2)) l zz = methV J (L.foldl (fun z p => if l = p.1 then p.2 else z) m)
  | [], m, zz => fun h => by simp at h
  | p :: L, m, zz => fun h => by
    show lookL (L.map fun p => (p.1, methV J p.2)) l (if l = p.1 then methV J p.2 else zz) = methV J (L.foldl (fun z p => if l = p.1 then p.2 else z) (if l = p.1 then p.2 else m))
    by_cases e : l = p.1
    · rw [if_pos e, if_pos e]; exact lookL_all J l L _
    · rw [if_neg e, if_neg e]
      refine lookL_map J l L _ _ ?_
      rw [List.any_cons, decide_eq_false e, Bool.false_or] at h
      exact h
theorem look_meth (J z : Value) (l : List UInt8) (h : known l = true) : lookL (methL J 7) l z = methV J (methOf l) := lookL_map J l methNs 29 z h
theorem has_meth (J : Value) (l : List UInt8) : hasL (methL J 7) l = known l := rfl
theorem methOf_no (l : List UInt8) (h : known l = false) : methOf l = 29 := by
  unfold known at h
  unfold methOf
  simp only [methNs, List.any_cons, List.any_nil, Bool.or_false, Bool.or_eq_false_iff, decide_eq_false_iff_not] at h
  simp [methNs, h]
theorem look_none (J z : Value) (l : List UInt8) (h : known l = false) : lookL (methL J 7) l z = z := by
  unfold known at h
  simp only [methNs, List.any_cons, List.any_nil, Bool.or_false, Bool.or_eq_false_iff, decide_eq_false_iff_not] at h
  simp [methL, methNs, lookL, h]
theorem methL_len (J : Value) (k : Nat) : (methL J k).length < maxLen := by
  unfold methL
  rw [List.length_map]
  exact Nat.lt_of_le_of_lt (List.length_take_le' _ _) (by decide)
theorem zero44 (w : World) : (zeroValue 44).run Tryz.prog w = .ok .nilFunc w := by kernel_rfl

set_option maxRecDepth 100000 in
set_option maxHeartbeats 3200000 in
/-- rules.Value where the name stands: what the name's method tells. -/
theorem value_walk (b1 b2 b3 : Bool) (A : Option Addr) (n c : Nat) (e nm v r : ByteArray) (ok : Bool) (m : Nat) (w : World) (hG : Good w) (he : e.size < 4294967281) (hn : nm.size < 4294967281) (h1 : attrF e.data.toList nm.data.toList = true)
    (hm : methOf nm.data.toList = m) (eg : ∀ args w, (callFunc m args).run Tryz.prog w = .ok (.enter m args) w)
    (hM : ∀ w1, Below w.heap.size w w1 → Calls Tryz.prog m #[.agg #[.bool b1, .bool b2, .bool b3, .slice A n c], .string v] w1 fun en w' => en = .returned (.tuple #[.string r, .bool ok]) ∧ Below w1.heap.size w1 w') :
    Calls Tryz.prog 14 #[.agg #[.bool b1, .bool b2, .bool b3], .slice A n c, .string e, .agg #[.string nm, .string v]] w fun en w' => en = .returned (if ok then .tuple #[.string r, .bool true] else .tuple #[.string ⟨#[]⟩, .bool false]) ∧ Below w.heap.size w w' := by
  have HA := Lib.hid (fun w1 (h : Good w1) => attr_any e nm w1 h he hn)
  rw [h1] at HA
  have HG := Lib.hid hG
  clear hG h1
  have HM := Lib.hid hM
  have HK := Lib.hid (key9 hn)
  have Hm := Lib.hid hm
  clear hM hm
  have hmf : ∀ fn first cap w, (Instr.makeFunc fn first cap).run Tryz.prog w = .ok (.func fn first cap) w := fun _ _ _ _ => rfl
  have hmm := @run_makeMap Tryz.prog
  obtain ⟨W0, hW0⟩ : ∃ W0, (w.alloc (Obj.cells #[Value.bool b1, Value.bool b2, Value.bool b3] 26)).alloc (Obj.cells #[Value.string nm, Value.string v] 29) = W0 := ⟨_, rfl⟩
  have hB0 : Below w.heap.size w W0 := hW0 ▸ two_below _ _ _
  have hr1 : W0.heap[w.heap.size]? = some (.cells #[Value.bool b1, Value.bool b2, Value.bool b3] 26 (0, 0)) := by
    rw [← hW0]
    exact blk_alloc (blk_new _ _) _
  have hr2 : W0.heap[w.heap.size + 1]? = some (.cells #[Value.string nm, Value.string v] 29 (0, 0)) := by
    rw [← hW0]
    have := blk_new (w.alloc (Obj.cells #[Value.bool b1, Value.bool b2, Value.bool b3] 26)) (.cells #[Value.string nm, Value.string v] 29 (0, 0))
    rwa [alloc_size] at this
  have HW0 := Lib.hid hW0
  have HB0 := Lib.hid hB0
  have HR1 := Lib.hid hr1
  have HR2 := Lib.hid hr2
  clear hr1 hr2 hB0 hW0
  cases hkn : known nm.data.toList
  · obtain rfl : 29 = m := by rw [← Hm.out]; exact (methOf_no _ hkn).symm
    have HLOOK := Lib.hid (fun (J z : Value) => look_none J z _ hkn)
    have HKN := Lib.hid hkn
    clear hkn Hm eg
    go_enter Tryz.func14, Tryz.ntmps14
    go_wp2_with fail
    rw [HW0.out]
    refine (HA.out W0 (HG.out.below HB0.out)).mono ?_
    rintro en w1 ⟨rfl, hb1⟩
    have HB1 := Lib.hid (below_then' HB0.out hb1)
    have HQ1 := Lib.hid (blk_below HR1.out hb1)
    have HQ2 := Lib.hid (blk_below HR2.out hb1)
    have y0 : w1.cell? ⟨w.heap.size, 0, none⟩ = some (.bool b1) := blk_cell HQ1.out 0
    have y1 : w1.cell? ⟨w.heap.size, 1, none⟩ = some (.bool b2) := blk_cell HQ1.out 1
    have y2 : w1.cell? ⟨w.heap.size, 2, none⟩ = some (.bool b3) := blk_cell HQ1.out 2
    have x0 : w1.cell? ⟨w.heap.size + 1, 0, none⟩ = some (.string nm) := blk_cell HQ2.out 0
    have x1 : w1.cell? ⟨w.heap.size + 1, 1, none⟩ = some (.string v) := blk_cell HQ2.out 1
    clear hb1 HR1 HR2 HW0 HB0 HA
    obtain ⟨J, hJ⟩ : ∃ J, Value.agg #[Value.bool b1, Value.bool b2, Value.bool b3, Value.slice A n c] = J := ⟨_, rfl⟩
    have HJ0 := Lib.hid (show ((w1.alloc (Obj.cells #[Value.bool b1, Value.bool b2, Value.bool b3, Value.slice A n c] 43)).alloc (Obj.map #[] 0)).heap[w1.heap.size]? = some (.cells #[Value.bool b1, Value.bool b2, Value.bool b3, Value.slice A n c] 43 (0, 0)) from blk_alloc (blk_new _ _) _)
    have HD0 := Lib.hid (show Below w1.heap.size w1 ((w1.alloc (Obj.cells #[Value.bool b1, Value.bool b2, Value.bool b3, Value.slice A n c] 43)).alloc (Obj.map #[] 0)) from two_below _ _ _)
    have HO0 := Lib.hid (show ownsL Tryz.prog 9 ((w1.alloc (Obj.cells #[Value.bool b1, Value.bool b2, Value.bool b3, Value.slice A n c] 43)).alloc (Obj.map #[] 0)) (w1.heap.size + 1) (methL (Value.agg #[Value.bool b1, Value.bool b2, Value.bool b3, Value.slice A n c]) 0) from by
      have := ownsL_made (w1.alloc (Obj.cells #[Value.bool b1, Value.bool b2, Value.bool b3, Value.slice A n c] 43)) Tryz.prog 9
      rwa [alloc_size] at this)
    clear hJ
    go_wp2_with (first
      | ((with_reducible refine wpList_insert_L rfl _ _ _ 45 rfl 9 44 law9 Tryz.underlying45 (w1.heap.size + 1) (methL (Value.agg #[Value.bool b1, Value.bool b2, Value.bool b3, Value.slice A n c]) 0) rfl HO0.out (methL_len _ _) (.string ⟨#[104, 114, 101, 102]⟩) (.func (.func 23) #[(Value.agg #[Value.bool b1, Value.bool b2, Value.bool b3, Value.slice A n c])] #[]) [104, 114, 101, 102] rfl rfl (by kernel_rfl) ?_); intro w2 ho hg; have HO1 := Lib.hid (show ownsL Tryz.prog 9 w2 (w1.heap.size + 1) (methL (Value.agg #[Value.bool b1, Value.bool b2, Value.bool b3, Value.slice A n c]) 1) from ho); have HJ1 := Lib.hid (blk_grown HJ0.out hg (by simp)); have HD1 := Lib.hid (HD0.out.grown hg HD0.out.size (by simp)); have j0 : w2.cell? ⟨w1.heap.size, 0, none⟩ = some (.bool b1) := blk_cell HJ1.out 0; have j1 : w2.cell? ⟨w1.heap.size, 1, none⟩ = some (.bool b2) := blk_cell HJ1.out 1; have j2 : w2.cell? ⟨w1.heap.size, 2, none⟩ = some (.bool b3) := blk_cell HJ1.out 2; have j3 : w2.cell? ⟨w1.heap.size, 3, none⟩ = some (.slice A n c) := blk_cell HJ1.out 3; clear ho hg HO0 HJ0 HD0)
      | ((with_reducible refine wpList_insert_L rfl _ _ _ 45 rfl 9 44 law9 Tryz.underlying45 (w1.heap.size + 1) (methL (Value.agg #[Value.bool b1, Value.bool b2, Value.bool b3, Value.slice A n c]) 1) rfl HO1.out (methL_len _ _) (.string ⟨#[115, 114, 99]⟩) (.func (.func 24) #[(Value.agg #[Value.bool b1, Value.bool b2, Value.bool b3, Value.slice A n c])] #[]) [115, 114, 99] rfl rfl (by kernel_rfl) ?_); intro w3 ho hg; have HO2 := Lib.hid (show ownsL Tryz.prog 9 w3 (w1.heap.size + 1) (methL (Value.agg #[Value.bool b1, Value.bool b2, Value.bool b3, Value.slice A n c]) 2) from ho); have HJ2 := Lib.hid (blk_grown HJ1.out hg (by simp)); have HD2 := Lib.hid (HD1.out.grown hg HD1.out.size (by simp)); have j0 : w3.cell? ⟨w1.heap.size, 0, none⟩ = some (.bool b1) := blk_cell HJ2.out 0; have j1 : w3.cell? ⟨w1.heap.size, 1, none⟩ = some (.bool b2) := blk_cell HJ2.out 1; have j2 : w3.cell? ⟨w1.heap.size, 2, none⟩ = some (.bool b3) := blk_cell HJ2.out 2; have j3 : w3.cell? ⟨w1.heap.size, 3, none⟩ = some (.slice A n c) := blk_cell HJ2.out 3; clear ho hg HO1 HJ1 HD1)
      | ((with_reducible refine wpList_insert_L rfl _ _ _ 45 rfl 9 44 law9 Tryz.underlying45 (w1.heap.size + 1) (methL (Value.agg #[Value.bool b1, Value.bool b2, Value.bool b3, Value.slice A n c]) 2) rfl HO2.out (methL_len _ _) (.string ⟨#[115, 116, 121, 108, 101]⟩) (.func (.func 25) #[(Value.agg #[Value.bool b1, Value.bool b2, Value.bool b3, Value.slice A n c])] #[]) [115, 116, 121, 108, 101] rfl rfl (by kernel_rfl) ?_); intro w4 ho hg; have HO3 := Lib.hid (show ownsL Tryz.prog 9 w4 (w1.heap.size + 1) (methL (Value.agg #[Value.bool b1, Value.bool b2, Value.bool b3, Value.slice A n c]) 3) from ho); have HJ3 := Lib.hid (blk_grown HJ2.out hg (by simp)); have HD3 := Lib.hid (HD2.out.grown hg HD2.out.size (by simp)); have j0 : w4.cell? ⟨w1.heap.size, 0, none⟩ = some (.bool b1) := blk_cell HJ3.out 0; have j1 : w4.cell? ⟨w1.heap.size, 1, none⟩ = some (.bool b2) := blk_cell HJ3.out 1; have j2 : w4.cell? ⟨w1.heap.size, 2, none⟩ = some (.bool b3) := blk_cell HJ3.out 2; have j3 : w4.cell? ⟨w1.heap.size, 3, none⟩ = some (.slice A n c) := blk_cell HJ3.out 3; clear ho hg HO2 HJ2 HD2)
      | ((with_reducible refine wpList_insert_L rfl _ _ _ 45 rfl 9 44 law9 Tryz.underlying45 (w1.heap.size + 1) (methL (Value.agg #[Value.bool b1, Value.bool b2, Value.bool b3, Value.slice A n c]) 3) rfl HO3.out (methL_len _ _) (.string ⟨#[100, 105, 114]⟩) (.func (.func 26) #[(Value.agg #[Value.bool b1, Value.bool b2, Value.bool b3, Value.slice A n c])] #[]) [100, 105, 114] rfl rfl (by kernel_rfl) ?_); intro w5 ho hg; have HO4 := Lib.hid (show ownsL Tryz.prog 9 w5 (w1.heap.size + 1) (methL (Value.agg #[Value.bool b1, Value.bool b2, Value.bool b3, Value.slice A n c]) 4) from ho); have HJ4 := Lib.hid (blk_grown HJ3.out hg (by simp)); have HD4 := Lib.hid (HD3.out.grown hg HD3.out.size (by simp)); have j0 : w5.cell? ⟨w1.heap.size, 0, none⟩ = some (.bool b1) := blk_cell HJ4.out 0; have j1 : w5.cell? ⟨w1.heap.size, 1, none⟩ = some (.bool b2) := blk_cell HJ4.out 1; have j2 : w5.cell? ⟨w1.heap.size, 2, none⟩ = some (.bool b3) := blk_cell HJ4.out 2; have j3 : w5.cell? ⟨w1.heap.size, 3, none⟩ = some (.slice A n c) := blk_cell HJ4.out 3; clear ho hg HO3 HJ3 HD3)
      | ((with_reducible refine wpList_insert_L rfl _ _ _ 45 rfl 9 44 law9 Tryz.underlying45 (w1.heap.size + 1) (methL (Value.agg #[Value.bool b1, Value.bool b2, Value.bool b3, Value.slice A n c]) 4) rfl HO4.out (methL_len _ _) (.string ⟨#[108, 97, 110, 103]⟩) (.func (.func 27) #[(Value.agg #[Value.bool b1, Value.bool b2, Value.bool b3, Value.slice A n c])] #[]) [108, 97, 110, 103] rfl rfl (by kernel_rfl) ?_); intro w6 ho hg; have HO5 := Lib.hid (show ownsL Tryz.prog 9 w6 (w1.heap.size + 1) (methL (Value.agg #[Value.bool b1, Value.bool b2, Value.bool b3, Value.slice A n c]) 5) from ho); have HJ5 := Lib.hid (blk_grown HJ4.out hg (by simp)); have HD5 := Lib.hid (HD4.out.grown hg HD4.out.size (by simp)); have j0 : w6.cell? ⟨w1.heap.size, 0, none⟩ = some (.bool b1) := blk_cell HJ5.out 0; have j1 : w6.cell? ⟨w1.heap.size, 1, none⟩ = some (.bool b2) := blk_cell HJ5.out 1; have j2 : w6.cell? ⟨w1.heap.size, 2, none⟩ = some (.bool b3) := blk_cell HJ5.out 2; have j3 : w6.cell? ⟨w1.heap.size, 3, none⟩ = some (.slice A n c) := blk_cell HJ5.out 3; clear ho hg HO4 HJ4 HD4)
      | ((with_reducible refine wpList_insert_L rfl _ _ _ 45 rfl 9 44 law9 Tryz.underlying45 (w1.heap.size + 1) (methL (Value.agg #[Value.bool b1, Value.bool b2, Value.bool b3, Value.slice A n c]) 5) rfl HO5.out (methL_len _ _) (.string ⟨#[116, 105, 116, 108, 101]⟩) (.func (.func 28) #[(Value.agg #[Value.bool b1, Value.bool b2, Value.bool b3, Value.slice A n c])] #[]) [116, 105, 116, 108, 101] rfl rfl (by kernel_rfl) ?_); intro w7 ho hg; have HO6 := Lib.hid (show ownsL Tryz.prog 9 w7 (w1.heap.size + 1) (methL (Value.agg #[Value.bool b1, Value.bool b2, Value.bool b3, Value.slice A n c]) 6) from ho); have HJ6 := Lib.hid (blk_grown HJ5.out hg (by simp)); have HD6 := Lib.hid (HD5.out.grown hg HD5.out.size (by simp)); have j0 : w7.cell? ⟨w1.heap.size, 0, none⟩ = some (.bool b1) := blk_cell HJ6.out 0; have j1 : w7.cell? ⟨w1.heap.size, 1, none⟩ = some (.bool b2) := blk_cell HJ6.out 1; have j2 : w7.cell? ⟨w1.heap.size, 2, none⟩ = some (.bool b3) := blk_cell HJ6.out 2; have j3 : w7.cell? ⟨w1.heap.size, 3, none⟩ = some (.slice A n c) := blk_cell HJ6.out 3; clear ho hg HO5 HJ5 HD5)
      | ((with_reducible refine wpList_insert_L rfl _ _ _ 45 rfl 9 44 law9 Tryz.underlying45 (w1.heap.size + 1) (methL (Value.agg #[Value.bool b1, Value.bool b2, Value.bool b3, Value.slice A n c]) 6) rfl HO6.out (methL_len _ _) (.string ⟨#[97, 108, 116]⟩) (.func (.func 28) #[(Value.agg #[Value.bool b1, Value.bool b2, Value.bool b3, Value.slice A n c])] #[]) [97, 108, 116] rfl rfl (by kernel_rfl) ?_); intro w8 ho hg; have HO7 := Lib.hid (show ownsL Tryz.prog 9 w8 (w1.heap.size + 1) (methL (Value.agg #[Value.bool b1, Value.bool b2, Value.bool b3, Value.slice A n c]) 7) from ho); have HJ7 := Lib.hid (blk_grown HJ6.out hg (by simp)); have HD7 := Lib.hid (HD6.out.grown hg HD6.out.size (by simp)); have j0 : w8.cell? ⟨w1.heap.size, 0, none⟩ = some (.bool b1) := blk_cell HJ7.out 0; have j1 : w8.cell? ⟨w1.heap.size, 1, none⟩ = some (.bool b2) := blk_cell HJ7.out 1; have j2 : w8.cell? ⟨w1.heap.size, 2, none⟩ = some (.bool b3) := blk_cell HJ7.out 2; have j3 : w8.cell? ⟨w1.heap.size, 3, none⟩ = some (.slice A n c) := blk_cell HJ7.out 3; clear ho hg HO6 HJ6 HD6; have x0' : w8.cell? ⟨w.heap.size + 1, 0, none⟩ = some (.string nm) := cell_later HD7.out x0; have x1' : w8.cell? ⟨w.heap.size + 1, 1, none⟩ = some (.string v) := cell_later HD7.out x1; have hlook : (Instr.lookup 45 (.map (some (w1.heap.size + 1))) (.string nm) true).run Tryz.prog w8 = .ok (.tuple #[.nilFunc, .bool false]) w8 := (by have := ownsL_look_ok HO7.out law9 Tryz.underlying45 (zero44 w8) HK.out; rw [HLOOK.out, has_meth, HKN.out] at this; exact this); clear HO7 HJ7))
    have HB8 := Lib.hid (below_then' HB1.out HD7.out)
    cases ok with
    | true =>
      refine (HM.out w8 HB8.out).mono ?_
      rintro en w9 ⟨rfl, hb9⟩
      have HB9 := Lib.hid (below_then' HB8.out hb9)
      clear hb9
      go_wp2_with fail
      go_ret2
      exact ⟨rfl, HB9.out⟩
    | false =>
      refine (HM.out w8 HB8.out).mono ?_
      rintro en w9 ⟨rfl, hb9⟩
      have HB9 := Lib.hid (below_then' HB8.out hb9)
      clear hb9
      go_wp2_with fail
      go_ret2
      exact ⟨rfl, HB9.out⟩
  · have HLOOK := Lib.hid (fun (J z : Value) => by have := look_meth J z _ hkn; rwa [Hm.out] at this)
    have HKN := Lib.hid hkn
    clear hkn Hm
    go_enter Tryz.func14, Tryz.ntmps14
    go_wp2_with fail
    rw [HW0.out]
    refine (HA.out W0 (HG.out.below HB0.out)).mono ?_
    rintro en w1 ⟨rfl, hb1⟩
    have HB1 := Lib.hid (below_then' HB0.out hb1)
    have HQ1 := Lib.hid (blk_below HR1.out hb1)
    have HQ2 := Lib.hid (blk_below HR2.out hb1)
    have y0 : w1.cell? ⟨w.heap.size, 0, none⟩ = some (.bool b1) := blk_cell HQ1.out 0
    have y1 : w1.cell? ⟨w.heap.size, 1, none⟩ = some (.bool b2) := blk_cell HQ1.out 1
    have y2 : w1.cell? ⟨w.heap.size, 2, none⟩ = some (.bool b3) := blk_cell HQ1.out 2
    have x0 : w1.cell? ⟨w.heap.size + 1, 0, none⟩ = some (.string nm) := blk_cell HQ2.out 0
    have x1 : w1.cell? ⟨w.heap.size + 1, 1, none⟩ = some (.string v) := blk_cell HQ2.out 1
    clear hb1 HR1 HR2 HW0 HB0 HA
    obtain ⟨J, hJ⟩ : ∃ J, Value.agg #[Value.bool b1, Value.bool b2, Value.bool b3, Value.slice A n c] = J := ⟨_, rfl⟩
    have HJ0 := Lib.hid (show ((w1.alloc (Obj.cells #[Value.bool b1, Value.bool b2, Value.bool b3, Value.slice A n c] 43)).alloc (Obj.map #[] 0)).heap[w1.heap.size]? = some (.cells #[Value.bool b1, Value.bool b2, Value.bool b3, Value.slice A n c] 43 (0, 0)) from blk_alloc (blk_new _ _) _)
    have HD0 := Lib.hid (show Below w1.heap.size w1 ((w1.alloc (Obj.cells #[Value.bool b1, Value.bool b2, Value.bool b3, Value.slice A n c] 43)).alloc (Obj.map #[] 0)) from two_below _ _ _)
    have HO0 := Lib.hid (show ownsL Tryz.prog 9 ((w1.alloc (Obj.cells #[Value.bool b1, Value.bool b2, Value.bool b3, Value.slice A n c] 43)).alloc (Obj.map #[] 0)) (w1.heap.size + 1) (methL (Value.agg #[Value.bool b1, Value.bool b2, Value.bool b3, Value.slice A n c]) 0) from by
      have := ownsL_made (w1.alloc (Obj.cells #[Value.bool b1, Value.bool b2, Value.bool b3, Value.slice A n c] 43)) Tryz.prog 9
      rwa [alloc_size] at this)
    clear hJ
    go_wp2_with (first
      | ((with_reducible refine wpList_insert_L rfl _ _ _ 45 rfl 9 44 law9 Tryz.underlying45 (w1.heap.size + 1) (methL (Value.agg #[Value.bool b1, Value.bool b2, Value.bool b3, Value.slice A n c]) 0) rfl HO0.out (methL_len _ _) (.string ⟨#[104, 114, 101, 102]⟩) (.func (.func 23) #[(Value.agg #[Value.bool b1, Value.bool b2, Value.bool b3, Value.slice A n c])] #[]) [104, 114, 101, 102] rfl rfl (by kernel_rfl) ?_); intro w2 ho hg; have HO1 := Lib.hid (show ownsL Tryz.prog 9 w2 (w1.heap.size + 1) (methL (Value.agg #[Value.bool b1, Value.bool b2, Value.bool b3, Value.slice A n c]) 1) from ho); have HJ1 := Lib.hid (blk_grown HJ0.out hg (by simp)); have HD1 := Lib.hid (HD0.out.grown hg HD0.out.size (by simp)); have j0 : w2.cell? ⟨w1.heap.size, 0, none⟩ = some (.bool b1) := blk_cell HJ1.out 0; have j1 : w2.cell? ⟨w1.heap.size, 1, none⟩ = some (.bool b2) := blk_cell HJ1.out 1; have j2 : w2.cell? ⟨w1.heap.size, 2, none⟩ = some (.bool b3) := blk_cell HJ1.out 2; have j3 : w2.cell? ⟨w1.heap.size, 3, none⟩ = some (.slice A n c) := blk_cell HJ1.out 3; clear ho hg HO0 HJ0 HD0)
      | ((with_reducible refine wpList_insert_L rfl _ _ _ 45 rfl 9 44 law9 Tryz.underlying45 (w1.heap.size + 1) (methL (Value.agg #[Value.bool b1, Value.bool b2, Value.bool b3, Value.slice A n c]) 1) rfl HO1.out (methL_len _ _) (.string ⟨#[115, 114, 99]⟩) (.func (.func 24) #[(Value.agg #[Value.bool b1, Value.bool b2, Value.bool b3, Value.slice A n c])] #[]) [115, 114, 99] rfl rfl (by kernel_rfl) ?_); intro w3 ho hg; have HO2 := Lib.hid (show ownsL Tryz.prog 9 w3 (w1.heap.size + 1) (methL (Value.agg #[Value.bool b1, Value.bool b2, Value.bool b3, Value.slice A n c]) 2) from ho); have HJ2 := Lib.hid (blk_grown HJ1.out hg (by simp)); have HD2 := Lib.hid (HD1.out.grown hg HD1.out.size (by simp)); have j0 : w3.cell? ⟨w1.heap.size, 0, none⟩ = some (.bool b1) := blk_cell HJ2.out 0; have j1 : w3.cell? ⟨w1.heap.size, 1, none⟩ = some (.bool b2) := blk_cell HJ2.out 1; have j2 : w3.cell? ⟨w1.heap.size, 2, none⟩ = some (.bool b3) := blk_cell HJ2.out 2; have j3 : w3.cell? ⟨w1.heap.size, 3, none⟩ = some (.slice A n c) := blk_cell HJ2.out 3; clear ho hg HO1 HJ1 HD1)
      | ((with_reducible refine wpList_insert_L rfl _ _ _ 45 rfl 9 44 law9 Tryz.underlying45 (w1.heap.size + 1) (methL (Value.agg #[Value.bool b1, Value.bool b2, Value.bool b3, Value.slice A n c]) 2) rfl HO2.out (methL_len _ _) (.string ⟨#[115, 116, 121, 108, 101]⟩) (.func (.func 25) #[(Value.agg #[Value.bool b1, Value.bool b2, Value.bool b3, Value.slice A n c])] #[]) [115, 116, 121, 108, 101] rfl rfl (by kernel_rfl) ?_); intro w4 ho hg; have HO3 := Lib.hid (show ownsL Tryz.prog 9 w4 (w1.heap.size + 1) (methL (Value.agg #[Value.bool b1, Value.bool b2, Value.bool b3, Value.slice A n c]) 3) from ho); have HJ3 := Lib.hid (blk_grown HJ2.out hg (by simp)); have HD3 := Lib.hid (HD2.out.grown hg HD2.out.size (by simp)); have j0 : w4.cell? ⟨w1.heap.size, 0, none⟩ = some (.bool b1) := blk_cell HJ3.out 0; have j1 : w4.cell? ⟨w1.heap.size, 1, none⟩ = some (.bool b2) := blk_cell HJ3.out 1; have j2 : w4.cell? ⟨w1.heap.size, 2, none⟩ = some (.bool b3) := blk_cell HJ3.out 2; have j3 : w4.cell? ⟨w1.heap.size, 3, none⟩ = some (.slice A n c) := blk_cell HJ3.out 3; clear ho hg HO2 HJ2 HD2)
      | ((with_reducible refine wpList_insert_L rfl _ _ _ 45 rfl 9 44 law9 Tryz.underlying45 (w1.heap.size + 1) (methL (Value.agg #[Value.bool b1, Value.bool b2, Value.bool b3, Value.slice A n c]) 3) rfl HO3.out (methL_len _ _) (.string ⟨#[100, 105, 114]⟩) (.func (.func 26) #[(Value.agg #[Value.bool b1, Value.bool b2, Value.bool b3, Value.slice A n c])] #[]) [100, 105, 114] rfl rfl (by kernel_rfl) ?_); intro w5 ho hg; have HO4 := Lib.hid (show ownsL Tryz.prog 9 w5 (w1.heap.size + 1) (methL (Value.agg #[Value.bool b1, Value.bool b2, Value.bool b3, Value.slice A n c]) 4) from ho); have HJ4 := Lib.hid (blk_grown HJ3.out hg (by simp)); have HD4 := Lib.hid (HD3.out.grown hg HD3.out.size (by simp)); have j0 : w5.cell? ⟨w1.heap.size, 0, none⟩ = some (.bool b1) := blk_cell HJ4.out 0; have j1 : w5.cell? ⟨w1.heap.size, 1, none⟩ = some (.bool b2) := blk_cell HJ4.out 1; have j2 : w5.cell? ⟨w1.heap.size, 2, none⟩ = some (.bool b3) := blk_cell HJ4.out 2; have j3 : w5.cell? ⟨w1.heap.size, 3, none⟩ = some (.slice A n c) := blk_cell HJ4.out 3; clear ho hg HO3 HJ3 HD3)
      | ((with_reducible refine wpList_insert_L rfl _ _ _ 45 rfl 9 44 law9 Tryz.underlying45 (w1.heap.size + 1) (methL (Value.agg #[Value.bool b1, Value.bool b2, Value.bool b3, Value.slice A n c]) 4) rfl HO4.out (methL_len _ _) (.string ⟨#[108, 97, 110, 103]⟩) (.func (.func 27) #[(Value.agg #[Value.bool b1, Value.bool b2, Value.bool b3, Value.slice A n c])] #[]) [108, 97, 110, 103] rfl rfl (by kernel_rfl) ?_); intro w6 ho hg; have HO5 := Lib.hid (show ownsL Tryz.prog 9 w6 (w1.heap.size + 1) (methL (Value.agg #[Value.bool b1, Value.bool b2, Value.bool b3, Value.slice A n c]) 5) from ho); have HJ5 := Lib.hid (blk_grown HJ4.out hg (by simp)); have HD5 := Lib.hid (HD4.out.grown hg HD4.out.size (by simp)); have j0 : w6.cell? ⟨w1.heap.size, 0, none⟩ = some (.bool b1) := blk_cell HJ5.out 0; have j1 : w6.cell? ⟨w1.heap.size, 1, none⟩ = some (.bool b2) := blk_cell HJ5.out 1; have j2 : w6.cell? ⟨w1.heap.size, 2, none⟩ = some (.bool b3) := blk_cell HJ5.out 2; have j3 : w6.cell? ⟨w1.heap.size, 3, none⟩ = some (.slice A n c) := blk_cell HJ5.out 3; clear ho hg HO4 HJ4 HD4)
      | ((with_reducible refine wpList_insert_L rfl _ _ _ 45 rfl 9 44 law9 Tryz.underlying45 (w1.heap.size + 1) (methL (Value.agg #[Value.bool b1, Value.bool b2, Value.bool b3, Value.slice A n c]) 5) rfl HO5.out (methL_len _ _) (.string ⟨#[116, 105, 116, 108, 101]⟩) (.func (.func 28) #[(Value.agg #[Value.bool b1, Value.bool b2, Value.bool b3, Value.slice A n c])] #[]) [116, 105, 116, 108, 101] rfl rfl (by kernel_rfl) ?_); intro w7 ho hg; have HO6 := Lib.hid (show ownsL Tryz.prog 9 w7 (w1.heap.size + 1) (methL (Value.agg #[Value.bool b1, Value.bool b2, Value.bool b3, Value.slice A n c]) 6) from ho); have HJ6 := Lib.hid (blk_grown HJ5.out hg (by simp)); have HD6 := Lib.hid (HD5.out.grown hg HD5.out.size (by simp)); have j0 : w7.cell? ⟨w1.heap.size, 0, none⟩ = some (.bool b1) := blk_cell HJ6.out 0; have j1 : w7.cell? ⟨w1.heap.size, 1, none⟩ = some (.bool b2) := blk_cell HJ6.out 1; have j2 : w7.cell? ⟨w1.heap.size, 2, none⟩ = some (.bool b3) := blk_cell HJ6.out 2; have j3 : w7.cell? ⟨w1.heap.size, 3, none⟩ = some (.slice A n c) := blk_cell HJ6.out 3; clear ho hg HO5 HJ5 HD5)
      | ((with_reducible refine wpList_insert_L rfl _ _ _ 45 rfl 9 44 law9 Tryz.underlying45 (w1.heap.size + 1) (methL (Value.agg #[Value.bool b1, Value.bool b2, Value.bool b3, Value.slice A n c]) 6) rfl HO6.out (methL_len _ _) (.string ⟨#[97, 108, 116]⟩) (.func (.func 28) #[(Value.agg #[Value.bool b1, Value.bool b2, Value.bool b3, Value.slice A n c])] #[]) [97, 108, 116] rfl rfl (by kernel_rfl) ?_); intro w8 ho hg; have HO7 := Lib.hid (show ownsL Tryz.prog 9 w8 (w1.heap.size + 1) (methL (Value.agg #[Value.bool b1, Value.bool b2, Value.bool b3, Value.slice A n c]) 7) from ho); have HJ7 := Lib.hid (blk_grown HJ6.out hg (by simp)); have HD7 := Lib.hid (HD6.out.grown hg HD6.out.size (by simp)); have j0 : w8.cell? ⟨w1.heap.size, 0, none⟩ = some (.bool b1) := blk_cell HJ7.out 0; have j1 : w8.cell? ⟨w1.heap.size, 1, none⟩ = some (.bool b2) := blk_cell HJ7.out 1; have j2 : w8.cell? ⟨w1.heap.size, 2, none⟩ = some (.bool b3) := blk_cell HJ7.out 2; have j3 : w8.cell? ⟨w1.heap.size, 3, none⟩ = some (.slice A n c) := blk_cell HJ7.out 3; clear ho hg HO6 HJ6 HD6; have x0' : w8.cell? ⟨w.heap.size + 1, 0, none⟩ = some (.string nm) := cell_later HD7.out x0; have x1' : w8.cell? ⟨w.heap.size + 1, 1, none⟩ = some (.string v) := cell_later HD7.out x1; have hlook : (Instr.lookup 45 (.map (some (w1.heap.size + 1))) (.string nm) true).run Tryz.prog w8 = .ok (.tuple #[.func (.func m) #[(.agg #[.bool b1, .bool b2, .bool b3, .slice A n c])] #[], .bool true]) w8 := (by have := ownsL_look_ok HO7.out law9 Tryz.underlying45 (zero44 w8) HK.out; rw [HLOOK.out, has_meth, HKN.out] at this; exact this); clear HO7 HJ7))
    have HB8 := Lib.hid (below_then' HB1.out HD7.out)
    cases ok with
    | true =>
      go_at_fn m
      refine (HM.out w8 HB8.out).mono ?_
      rintro en w9 ⟨rfl, hb9⟩
      have HB9 := Lib.hid (below_then' HB8.out hb9)
      clear hb9
      go_wp2_with fail
      go_ret2
      exact ⟨rfl, HB9.out⟩
    | false =>
      go_at_fn m
      refine (HM.out w8 HB8.out).mono ?_
      rintro en w9 ⟨rfl, hb9⟩
      have HB9 := Lib.hid (below_then' HB8.out hb9)
      clear hb9
      go_wp2_with fail
      go_ret2
      exact ⟨rfl, HB9.out⟩

set_option maxRecDepth 100000 in
set_option maxHeartbeats 1600000 in
/-- rules.Value where the name does not stand. -/
theorem value_off (b1 b2 b3 : Bool) (A : Option Addr) (n c : Nat) (e nm v : ByteArray) (w : World) (hG : Good w) (he : e.size < 4294967281) (hn : nm.size < 4294967281) (h1 : attrF e.data.toList nm.data.toList = false) :
    Calls Tryz.prog 14 #[.agg #[.bool b1, .bool b2, .bool b3], .slice A n c, .string e, .agg #[.string nm, .string v]] w fun en w' => en = .returned (.tuple #[.string ⟨#[]⟩, .bool false]) ∧ Below w.heap.size w w' := by
  have HA := Lib.hid (fun w1 (h : Good w1) => attr_any e nm w1 h he hn)
  rw [h1] at HA
  obtain ⟨W0, hW0⟩ : ∃ W0, (w.alloc (Obj.cells #[Value.bool b1, Value.bool b2, Value.bool b3] 26)).alloc (Obj.cells #[Value.string nm, Value.string v] 29) = W0 := ⟨_, rfl⟩
  have hB0 : Below w.heap.size w W0 := hW0 ▸ two_below _ _ _
  have HG := Lib.hid (hG.below hB0)
  have HW0 := Lib.hid hW0
  have HB0 := Lib.hid hB0
  clear hB0 hW0 h1 hG
  go_enter Tryz.func14, Tryz.ntmps14
  go_wp2_with fail
  rw [HW0.out]
  refine (HA.out W0 HG.out).mono ?_
  rintro en w1 ⟨rfl, hb1⟩
  have HB1 := Lib.hid (below_then' HB0.out hb1)
  clear hb1
  go_wp2_with fail
  go_ret2
  exact ⟨rfl, HB1.out⟩
end Go.Proofs.YtchooidhieaphaaGreatDoor
