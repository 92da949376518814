/- attach.Find returns the first part of that name. -/
import Derived.Test.YtchooidhieaphaaGreatDoorValueW
import Derived.Test.YtchooidhieaphaaGreatDoorPRulesValuesx0
set_option linter.unusedVariables false
set_option linter.unusedSimpArgs false
namespace Go.Proofs.YtchooidhieaphaaGreatDoor
open Go.RowKit Go.Proofs.YtchooidhieaphaaGreatDoorW.PrintWords PRulesValues

/-- Whether this part bears that name. -/
def namedB (id : ByteArray) (x : S39) : Bool := decide (¬ id.data.toList = []) && decide (x.f2.data.toList = id.data.toList)
/-- The place of the first part of that name; -1: none. -/
def findF (l : List S39) (id : ByteArray) : Int := match l.findIdx? (namedB id) with | some i => i | none => -1

set_option maxRecDepth 100000 in
theorem find1_any (x : S39) (id : ByteArray) (b : Nat) (w : World) (hb : w.cell? ⟨b, 0, none⟩ = some (.string id)) (hbl : b < w.heap.size) :
    Calls Tryz.prog 63 #[.agg #[.string x.f0, .string x.f1, .string x.f2, .string x.f3], .pointer (some ⟨b, 0, none⟩)] w fun e w' => e = .returned (.bool (namedB id x)) ∧ Below w.heap.size w w' := by
  have hB : Below w.heap.size w (w.alloc (.cells #[.string x.f0, .string x.f1, .string x.f2, .string x.f3] 39)) := (Below.refl _ _).alloc (Nat.le_refl _) _
  have hc : (w.alloc (.cells #[.string x.f0, .string x.f1, .string x.f2, .string x.f3] 39)).cell? ⟨b, 0, none⟩ = some (.string id) := cell_later hB hb
  have HB := Lib.hid hB
  clear hB
  by_cases h1 : id.data.toList = []
  · have e1 : id.toList = [] := by rw [ByteArray.toList_eq]; exact h1
    have HR := Lib.hid (show namedB id x = false by unfold namedB; simp [h1])
    clear h1
    go_enter Tryz.func63, Tryz.ntmps63
    go_wp2_with fail
    go_ret
    exact ⟨ret_bool HR.out.symm, HB.out⟩
  · have e1 : ¬ id.toList = [] := by rw [ByteArray.toList_eq]; exact h1
    by_cases h2 : x.f2.data.toList = id.data.toList
    · have e2 : x.f2.toList = id.toList := by rw [ByteArray.toList_eq, ByteArray.toList_eq]; exact h2
      have HR := Lib.hid (show namedB id x = true by unfold namedB; simp [h1, h2])
      clear h1 h2
      have e3 : (x.f2.toList == id.toList) = true := by rw [e2]; simp
      go_enter Tryz.func63, Tryz.ntmps63
      go_wp2_with fail
      all_goals
        go_ret
        exact ⟨ret_bool (by rw [HR.out]; try simp [e1, e2]), HB.out⟩
    · have e2 : ¬ x.f2.toList = id.toList := by rw [ByteArray.toList_eq, ByteArray.toList_eq]; exact h2
      have HR := Lib.hid (show namedB id x = false by unfold namedB; simp [h1, h2])
      clear h1 h2
      have e3 : (x.f2.toList == id.toList) = false := by simpa using e2
      go_enter Tryz.func63, Tryz.ntmps63
      go_wp2_with fail
      all_goals
        go_ret
        exact ⟨ret_bool (by rw [HR.out]; try simp [e1, e2]), HB.out⟩

theorem findF_hit (l : List S39) (id : ByteArray) (k : Nat) (x : S39) (hx : l[k]? = some x) (h : namedB id x = true) (hno : ∀ (j : Nat) (y : S39), j < k → l[j]? = some y → namedB id y = false) : findF l id = (k : Int) := by
  obtain ⟨hk, he⟩ := List.getElem?_eq_some_iff.1 hx
  unfold findF
  have : l.findIdx? (namedB id) = some k := by
    rw [List.findIdx?_eq_some_iff_getElem]
    refine ⟨hk, by rw [he]; exact h, fun j hj => ?_⟩
    have := hno j l[j] hj (List.getElem?_eq_getElem (by omega))
    rw [this]; exact Bool.false_ne_true
  rw [this]
theorem findF_miss (l : List S39) (id : ByteArray) (hno : ∀ (j : Nat) (y : S39), l[j]? = some y → namedB id y = false) : findF l id = -1 := by
  unfold findF
  have : l.findIdx? (namedB id) = none := by
    rw [List.findIdx?_eq_none_iff]
    intro x hx
    obtain ⟨j, hj⟩ := List.getElem?_of_mem hx
    exact hno j x hj
  rw [this]

set_option maxRecDepth 100000 in
set_option maxHeartbeats 1600000 in
theorem index_any (A : Option Addr) (c : Nat) (l : List S39) (id : ByteArray) (b : Nat) (w : World) (hC : Kd.C k39 w A l.length l) (hl : l.length < 9223372036854775807) (hb : w.cell? ⟨b, 0, none⟩ = some (.string id)) (hbl : b < w.heap.size) :
    Calls Tryz.prog 62 #[.slice A l.length c, .func (.func 63) #[] #[.pointer (some ⟨b, 0, none⟩)]] w fun e w' => e = .returned (.int .i64 (findF l id)) ∧ Below w.heap.size w w' := by
  have HC := Lib.hid hC
  have HCb := Lib.hid hb
  have HBl := Lib.hid hbl
  clear hC hb hbl
  go_enter Tryz.func62, Tryz.ntmps62
  go_wp2
  go_loopw [8] (fun i wr => Below w.heap.size w wr ∧ ∃ k : Nat, k ≤ l.length ∧ i = .int .i64 (k : Int) ∧ Hid (∀ j y, j < k → l[j]? = some y → namedB id y = false)) (fun i _ => l.length - (intOf i).toNat)
  case atStart => exact ⟨Below.refl _ _, 0, Nat.zero_le _, rfl, Lib.hid (fun j y h => absurd h (Nat.not_lt_zero _))⟩
  case round =>
    obtain ⟨hB, k, hk, rfl, hN⟩ := hrel
    have HB := Lib.hid hB
    have HF := Lib.hid (cell_later hB HCb.out)
    have HFl := Lib.hid (Nat.lt_of_lt_of_le HBl.out hB.size)
    by_cases hlt : k < l.length
    · obtain ⟨x, hx⟩ : ∃ x, l[k]? = some x := ⟨_, List.getElem?_eq_getElem hlt⟩
      obtain ⟨ad, rfl, c0, c1, c2, c3⟩ := at_T39 (Kd.C_below HC.out hB) (k : Int) (by omega) (by omega)
      have hr : rd_T39 l (k : Int) = x := by
        show l.getD (k : Int).toNat z39 = x
        rw [List.getD_eq_getElem?_getD, Int.toNat_natCast, hx]; rfl
      rw [hr] at c0 c1 c2 c3
      rw [Int.toNat_natCast] at c0 c1 c2 c3
      have HX := Lib.hid hx
      have HP := Lib.hid (find1_any x id b wr HF.out HFl.out)
      clear hx hr hB
      cases hp : namedB id x with
      | true =>
        rw [hp] at HP
        have HPp := Lib.hid hp
        clear hp
        go_wp2_with fail
        refine HP.out.mono ?_
        rintro e w1 ⟨rfl, hb1⟩
        have HB1 := Lib.hid (below_then' HB.out hb1)
        clear hb1 c0 c1 c2 c3
        go_wp2_with fail
        go_ret
        exact ⟨ret_int (findF_hit l id k x HX.out HPp.out hN.out).symm, HB1.out⟩
      | false =>
        rw [hp] at HP
        have HPp := Lib.hid (show ∀ (j : Nat) (y : S39), j < k + 1 → l[j]? = some y → namedB id y = false from fun j y hj hy => by
          by_cases e : j = k
          · subst e; rw [HX.out] at hy; injection hy with hy; rw [← hy]; exact hp
          · exact hN.out j y (by omega) hy)
        clear hp
        go_wp2_with fail
        refine HP.out.mono ?_
        rintro e w1 ⟨rfl, hb1⟩
        have HB1 := Lib.hid (below_then' HB.out hb1)
        clear hb1 c0 c1 c2 c3
        go_wp2_with fail
        go_roundw
        case rel => exact ⟨HB1.out, k + 1, by omega, by go_num, HPp⟩
        case measure => simp [intOf]; omega
    · have hkl : k = l.length := by omega
      subst hkl
      clear hB
      go_wp2_with fail
      go_ret
      exact ⟨ret_int (findF_miss l id (fun j y hy => hN.out j y (List.getElem?_eq_some_iff.1 hy).1 hy)).symm, HB.out⟩

theorem findF_range (l : List S39) (id : ByteArray) : findF l id = -1 ∨ (0 ≤ findF l id ∧ findF l id < l.length) := by
  unfold findF
  cases h : l.findIdx? (namedB id) with
  | none => exact .inl rfl
  | some k =>
    right
    rw [List.findIdx?_eq_some_iff_getElem] at h
    obtain ⟨hk, _⟩ := h
    show (0 : Int) ≤ (k : Int) ∧ (k : Int) < (l.length : Int)
    omega

set_option maxRecDepth 100000 in
set_option maxHeartbeats 1600000 in
theorem find_any (A : Option Addr) (c : Nat) (l : List S39) (id : ByteArray) (w : World) (hC : Kd.C k39 w A l.length l) (hl : l.length < 9223372036854775807) :
    Calls Tryz.prog 42 #[.slice A l.length c, .string id] w fun e w' => e = .returned (.tuple #[.int .i64 (if 0 ≤ findF l id then findF l id else 0), .bool (decide (0 ≤ findF l id))]) ∧ Below w.heap.size w w' := by
  have hB : Below w.heap.size w (w.alloc (.cells #[.string id] 9)) := (Below.refl _ _).alloc (Nat.le_refl _) _
  have HI := Lib.hid (index_any A c l id w.heap.size (w.alloc (.cells #[.string id] 9)) (Kd.C_below hC hB) hl (alloc_cell _ _ _ _ _ rfl) (by rw [alloc_size]; omega))
  have HB := Lib.hid hB
  clear hB hC
  have hmf : ∀ fn first cap w, (Instr.makeFunc fn first cap).run Tryz.prog w = .ok (.func fn first cap) w := fun _ _ _ _ => rfl
  have hr := findF_range l id
  obtain ⟨v, hv⟩ : ∃ v, findF l id = v := ⟨_, rfl⟩
  rw [hv] at HI hr ⊢
  clear hv
  rcases hr with rfl | ⟨h0, h1⟩
  · go_enter Tryz.func42, Tryz.ntmps42
    go_wp2_with fail
    refine HI.out.mono ?_
    rintro e w1 ⟨rfl, hb1⟩
    have HB1 := Lib.hid (below_then' HB.out hb1)
    clear hb1
    go_wp2_with fail
    go_ret2
    exact ⟨rfl, HB1.out⟩
  · go_enter Tryz.func42, Tryz.ntmps42
    go_wp2_with fail
    refine HI.out.mono ?_
    rintro e w1 ⟨rfl, hb1⟩
    have HB1 := Lib.hid (below_then' HB.out hb1)
    clear hb1
    go_wp2_with fail
    go_ret2
    exact ⟨tuple2 (congrArg (Value.int .i64) (show max v 0 = v by omega)) rfl, HB1.out⟩
end Go.Proofs.YtchooidhieaphaaGreatDoor
