/- rules.Blocked returns what blockF says. Condition: a text below 2^32 - 15 bytes. -/
import Derived.Test.YtchooidhieaphaaGreatDoorKind
set_option linter.unusedVariables false
set_option linter.unusedSimpArgs false
namespace Go.Proofs.YtchooidhieaphaaGreatDoor
open Go.RowKit Go.Proofs.YtchooidhieaphaaGreatDoorW.PrintWords

/-- What rules.Blocked tells, by the kind and the cleaned address. -/
def blockG (b : Bool) (e n c : List UInt8) (k : Int) : Bool :=
  if e = [105, 109, 103] ∧ n = [115, 114, 99] then
    if k = 0 then (if c = [] then false else !(Lib.hasPrefix c [97, 116, 116, 58]))
    else if k = 1 then true
    else if k = 2 then !b
    else false
  else false
def blockF (b : Bool) (e n v : List UInt8) : Bool := blockG b e n (cleanF v) (kindF v)

theorem alloc_size (w : World) (o : Obj) : (w.alloc o).heap.size = w.heap.size + 1 := by simp
theorem two_below (w : World) (o1 o2 : Obj) : Below w.heap.size w ((w.alloc o1).alloc o2) :=
  ((Below.refl _ _).alloc (Nat.le_refl _) o1).alloc (by rw [alloc_size]; omega) o2
theorem alloc_cell (w : World) (cs : Array Value) (t : TypeId) (i : Nat) (v : Value) (h : cs[i]? = some v) : (w.alloc (.cells cs t)).cell? ⟨w.heap.size, i, none⟩ = some v := by
  have hn := heap_alloc_new w (.cells cs t)
  unfold World.cell?
  rw [hn]
  exact h
theorem hasP_any (s p : ByteArray) (w : World) : Calls Tryz.prog 39 #[.string s, .string p] w fun e w' => e = .returned (.bool (Lib.hasPrefix s.data.toList p.data.toList)) ∧ w = w' :=
  (Tryz.strings_HasPrefix s p w).mono fun _ _ h => ⟨h.1, h.2.symm⟩
theorem kindF_cases (l : List UInt8) : kindF l = 0 ∨ kindF l = 1 ∨ kindF l = 2 ∨ kindF l = 3 ∨ kindF l = 4 ∨ kindF l = 5 := by
  unfold kindF kindG
  repeat' split
  all_goals simp

set_option maxRecDepth 100000 in
set_option maxHeartbeats 1600000 in
theorem blocked_any (b1 b2 b3 : Bool) (e n v : ByteArray) (w : World) (hG : Good w) (hv : v.size < 4294967281) :
    Calls Tryz.prog 16 #[.agg #[.bool b1, .bool b2, .bool b3], .string e, .agg #[.string n, .string v]] w fun en w' => en = .returned (.bool (blockF b1 e.data.toList n.data.toList v.data.toList)) ∧ Below w.heap.size w w' := by
  obtain ⟨W0, hW0⟩ : ∃ W0, (w.alloc (Obj.cells #[Value.bool b1, Value.bool b2, Value.bool b3] 26)).alloc (Obj.cells #[Value.string n, Value.string v] 29) = W0 := ⟨_, rfl⟩
  have hB0 : Below w.heap.size w W0 := hW0 ▸ two_below _ _ _
  have h26 : (w.alloc (Obj.cells #[Value.bool b1, Value.bool b2, Value.bool b3] 26)).cell? ⟨w.heap.size, 0, none⟩ = some (.bool b1) := alloc_cell _ _ _ _ _ rfl
  have hc1 : W0.cell? ⟨w.heap.size, 0, none⟩ = some (.bool b1) := by
    rw [← hW0]
    exact cell_later ((Below.refl _ _).alloc (Nat.le_refl _) _) h26
  have hc2 : W0.cell? ⟨w.heap.size + 1, 1, none⟩ = some (.string v) := by
    rw [← hW0]
    have := alloc_cell (w.alloc (Obj.cells #[Value.bool b1, Value.bool b2, Value.bool b3] 26)) #[Value.string n, Value.string v] 29 1 (.string v) rfl
    rwa [alloc_size] at this
  have HG0 := Lib.hid (hG.below hB0)
  have HW0 := Lib.hid hW0
  have HB0 := Lib.hid hB0
  have HC1 := Lib.hid hc1
  have HC2 := Lib.hid hc2
  have HCl := Lib.hid (fun w1 => clean_any v w1 hv)
  have HKi := Lib.hid (fun w1 (h : Good w1) => kind_any v w1 h hv)
  have hF : blockF b1 e.data.toList n.data.toList v.data.toList = blockG b1 e.data.toList n.data.toList (cleanF v.data.toList) (kindF v.data.toList) := rfl
  have hk := kindF_cases v.data.toList
  obtain ⟨k, hkk⟩ : ∃ k, kindF v.data.toList = k := ⟨_, rfl⟩
  obtain ⟨c, hc⟩ : ∃ c : ByteArray, (⟨(cleanF v.data.toList).toArray⟩ : ByteArray) = c := ⟨_, rfl⟩
  have hcl : cleanF v.data.toList = c.data.toList := by rw [← hc]
  rw [hcl, hkk] at hF
  rw [hkk] at HKi hk
  rw [hc] at HCl
  rw [hF]
  clear hF hcl hc hkk hc1 hc2 h26 hB0 hW0
  obtain ⟨R, hR⟩ : ∃ R, blockG b1 e.data.toList n.data.toList c.data.toList k = R := ⟨_, rfl⟩
  rw [hR]
  unfold blockG at hR
  by_cases he : e.data.toList = [105, 109, 103]
  · by_cases hn : n.data.toList = [115, 114, 99]
    · rw [if_pos ⟨he, hn⟩] at hR
      have e1 := beq_yes he
      have e2 := beq_yes hn
      clear he hn
      go_enter Tryz.func16, Tryz.ntmps16
      go_wp2_with fail
      rw [HW0.out]
      refine (HCl.out W0).mono ?_
      rintro en w1 ⟨rfl, hb1⟩
      have hc1 := cell_later hb1 HC1.out
      have hc2 := cell_later hb1 HC2.out
      have HB1 := Lib.hid (below_then' HB0.out hb1)
      have HG1 := Lib.hid (HG0.out.below hb1)
      clear hb1 HW0 HB0 HC1 HC2 HG0
      go_wp2_with fail
      refine (HKi.out w1 HG1.out).mono ?_
      rintro en w2 ⟨rfl, hb2⟩
      have hc3 := cell_later hb2 hc1
      have HB2 := Lib.hid (below_then' HB1.out hb2)
      clear hb2 hc1 hc2 HB1 HG1
      have HH := Lib.hid (fun w => hasP_any c ⟨#[97, 116, 116, 58]⟩ w)
      rcases hk with rfl | rfl | rfl | rfl | rfl | rfl
      · rw [if_pos rfl] at hR
        by_cases hc0 : c.data.toList = []
        · rw [if_pos hc0] at hR
          subst hR
          have hc0' : c.toList = [] := by rw [ByteArray.toList_eq]; exact hc0
          clear hc0
          go_wp2_with fail
          go_ret
          exact ⟨rfl, HB2.out⟩
        · rw [if_neg hc0] at hR
          have hc0' : ¬ c.toList = [] := by rw [ByteArray.toList_eq]; exact hc0
          clear hc0
          go_wp2_with (go_at_call 39; refine (HH.out _).mono ?_; rintro e w' ⟨rfl, rfl⟩)
          all_goals
            go_ret
            refine ⟨ret_bool ?_, HB2.out⟩
            first | exact hR | (rw [← hR]; simp [hc0']) | skip
      all_goals
        simp at hR
        subst hR
        clear HH
        go_wp2_with fail
        go_ret
        exact ⟨rfl, HB2.out⟩
    · rw [if_neg (fun h => hn h.2)] at hR
      subst hR
      have e1 := beq_yes he
      have e2 := beq_no hn
      clear he hn hk
      go_enter Tryz.func16, Tryz.ntmps16
      go_wp2_with fail
      go_ret
      exact ⟨rfl, HW0.out ▸ HB0.out⟩
  · rw [if_neg (fun h => he h.1)] at hR
    subst hR
    have e1 := beq_no he
    clear he hk
    go_enter Tryz.func16, Tryz.ntmps16
    go_wp2_with fail
    go_ret
    exact ⟨rfl, HW0.out ▸ HB0.out⟩
end Go.Proofs.YtchooidhieaphaaGreatDoor
