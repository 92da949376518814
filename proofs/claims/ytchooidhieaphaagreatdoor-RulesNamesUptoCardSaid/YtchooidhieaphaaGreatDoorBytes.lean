/- css.small and the document's Small return the text with its capitals made small. -/
/-
  []byte of a text, written in place, and back: css.small, the document's Small.
-/
import Derived.Test.YtchooidhieaphaaGreatDoorClean
set_option linter.unusedVariables false
set_option linter.unusedSimpArgs false
namespace Go.Proofs.YtchooidhieaphaaGreatDoor
open Go.RowKit Go.Proofs.YtchooidhieaphaaGreatDoorW.PrintWords

/-- Block G begins with these bytes, which may be written. -/
def BytesAt (w : World) (G : Nat) (l : List UInt8) : Prop :=
  ∃ cs fz, w.heap[G]? = some (.cells cs 5 fz) ∧ l.length ≤ fz.1 ∧ ∀ (i : Nat) (x : UInt8), l[i]? = some x → cs[i]? = some (Value.int .u8 (x.toNat : Int))

theorem bytesAt_new (w : World) (s : ByteArray) : BytesAt (Lib.bytesWorld w 5 s) w.heap.size s.data.toList := by
  refine ⟨_, _, Lib.bytesWorld_at_new w 5 s, ?_, fun i x hx => ?_⟩
  · simp [Lib.bytesCells]
  · have hi : i < s.size := by
      have := (List.getElem?_eq_some_iff.1 hx).1
      rw [Lib.size_eq]; exact this
    have h := Lib.bytesWorld_cell w 5 s i hi
    rw [cell_of_row _ _ i _ 5 _ (Lib.bytesWorld_at_new w 5 s)] at h
    rw [h, List.getD_eq_getElem?_getD, hx]
    rfl
theorem BytesAt.cell {w : World} {G : Nat} {l : List UInt8} (h : BytesAt w G l) {i : Nat} {x : UInt8} (hx : l[i]? = some x) : w.cell? ⟨G, i, none⟩ = some (.int .u8 (x.toNat : Int)) := by
  obtain ⟨cs, fz, h1, h2, h3⟩ := h
  rw [cell_of_row _ _ i _ 5 _ h1]
  exact h3 i x hx
theorem BytesAt.free {w : World} {G : Nat} {l : List UInt8} (h : BytesAt w G l) {i : Nat} (hi : i < l.length) : w.frozen? ⟨G, i, none⟩ = false := by
  obtain ⟨cs, fz, h1, h2, h3⟩ := h
  simp only [World.frozen?, h1]
  simp
  omega
theorem BytesAt.set {w : World} {G : Nat} {l : List UInt8} (h : BytesAt w G l) (k : Nat) (x : UInt8) : BytesAt (w.setCell ⟨G, k, none⟩ (.int .u8 (x.toNat : Int))) G (l.set k x) := by
  obtain ⟨cs, fz, h1, h2, h3⟩ := h
  refine ⟨cs.setIfInBounds k (.int .u8 (x.toNat : Int)), fz, by simp [World.setCell, Array.getElem?_modify, h1], by simpa using h2, fun i y hy => ?_⟩
  by_cases e : k = i
  · subst e
    have hk : k < l.length := by
      have := (List.getElem?_eq_some_iff.1 hy).1
      simpa using this
    have hy' : x = y := by
      rw [List.getElem?_set_self hk] at hy
      exact Option.some.inj hy
    have hc : k < cs.size := by
      have := h3 k l[k] (by simp [hk])
      exact (Array.getElem?_eq_some_iff.1 this).1
    rw [Array.getElem?_setIfInBounds_self_of_lt hc, hy']
  · rw [List.getElem?_set_ne e] at hy
    rw [Array.getElem?_setIfInBounds_ne e]
    exact h3 i y hy
theorem BytesAt.below {w w' : World} {G : Nat} {l : List UInt8} (h : BytesAt w G l) (hb : Below w.heap.size w w') : BytesAt w' G l := by
  obtain ⟨cs, fz, h1, h2, h3⟩ := h
  exact ⟨cs, fz, blk_below h1 hb, h2, h3⟩
theorem BytesAt.string {w : World} {G : Nat} {l : List UInt8} (h : BytesAt w G l) (n c : Nat) (hn : l.length = n) : (convert 50 9 (.slice (some ⟨G, 0, none⟩) n c)).run Tryz.prog w = .ok (.string ⟨l.toArray⟩) w := by
  have := run_convert_bytes_arg (P := Tryz.prog) w 50 5 Tryz.underlying50 Tryz.underlying5 G 0 n c (l.map fun c => (c.toNat : Int)) (by simpa using hn) (fun i hi => by
    have hx : l[i]? = some (l[i]'(by omega)) := by simp [show i < l.length by omega]
    rw [Nat.zero_add, h.cell hx]
    simp [List.getD_eq_getElem?_getD, show i < l.length by omega]) 9 Tryz.underlying9
  rw [this, strOfNums_bytes]

def upperB (c : UInt8) : Bool := decide (65 ≤ c.toNat) && decide (c.toNat ≤ 90)
def smallB (c : UInt8) : UInt8 := if upperB c then c + 32 else c
/-- A text whose first k letters have been made small. -/
def smallTo (l : List UInt8) (k : Nat) : List UInt8 := (l.take k).map smallB ++ l.drop k
theorem smallTo_length (l : List UInt8) (k : Nat) : (smallTo l k).length = l.length := by simp [smallTo]; omega
theorem smallTo_zero (l : List UInt8) : smallTo l 0 = l := by simp [smallTo]
theorem smallTo_all (l : List UInt8) : smallTo l l.length = l.map smallB := by simp [smallTo]
theorem smallTo_at (l : List UInt8) (k : Nat) (x : UInt8) (h : l[k]? = some x) : (smallTo l k)[k]? = some x := by
  have hk := (List.getElem?_eq_some_iff.1 h).1
  unfold smallTo
  rw [List.getElem?_append_right (by simp; omega)]
  simp only [List.length_map, List.length_take, Nat.min_eq_left (Nat.le_of_lt hk), Nat.sub_self]
  simpa using h
theorem smallTo_set (l : List UInt8) (k : Nat) (x : UInt8) (h : l[k]? = some x) : (smallTo l k).set k (smallB x) = smallTo l (k + 1) := by
  have hk := (List.getElem?_eq_some_iff.1 h).1
  have hd : l.drop k = x :: l.drop (k + 1) := by
    rw [List.drop_eq_getElem_cons hk]
    congr 1
    have := (List.getElem?_eq_some_iff.1 h).2
    exact this
  have ht : l.take (k + 1) = l.take k ++ [x] := by
    rw [List.take_succ_eq_append_getElem hk]
    congr 2
    exact (List.getElem?_eq_some_iff.1 h).2
  unfold smallTo
  rw [List.set_append_right _ _ (by simp; omega), hd, ht]
  simp [Nat.min_eq_left (Nat.le_of_lt hk)]
theorem smallTo_same (l : List UInt8) (k : Nat) (x : UInt8) (h : l[k]? = some x) (hu : upperB x = false) : smallTo l (k + 1) = smallTo l k := by
  rw [← smallTo_set l k x h]
  have : smallB x = x := by simp [smallB, hu]
  rw [this]
  have h2 := smallTo_at l k x h
  have hk := (List.getElem?_eq_some_iff.1 h2).1
  apply List.ext_getElem?
  intro j
  by_cases e : k = j
  · subst e
    rw [List.getElem?_set_self hk, h2]
  · rw [List.getElem?_set_ne e]

theorem upperB_iff {x : UInt8} (h : upperB x = true) : 65 ≤ x.toNat ∧ x.toNat ≤ 90 := by simpa [upperB] using h
theorem upperB_not {x : UInt8} (h : upperB x = false) : x.toNat < 65 ∨ 90 < x.toNat := by
  unfold upperB at h
  simp at h
  omega
theorem smallB_up {x : UInt8} (h : upperB x = true) : ((smallB x).toNat : Int) = ((x.toNat + 32 : Nat) : Int) := by
  have hb := upperB_iff h
  unfold smallB
  rw [if_pos h, UInt8.toNat_add]
  have : (32 : UInt8).toNat = 32 := rfl
  omega

set_option maxRecDepth 100000 in
set_option maxHeartbeats 1600000 in
/-- css.small. -/
theorem small_any (s : ByteArray) (w : World) (hs : s.size < 4294967281) :
    Calls Tryz.prog 100 #[.string s] w fun e w' => e = .returned (.string ⟨(s.data.toList.map smallB).toArray⟩) ∧ Below w.heap.size w w' := by
  have hS := Lib.run_convert_string_bytes (P := Tryz.prog) w 9 50 5 s Tryz.underlying9 Tryz.underlying50 Tryz.underlying5
  have hbw := Lib.bytesWorld_below w 5 s
  have HN := Lib.hid (bytesAt_new w s)
  have HB := Lib.hid hbw
  have hsz := Lib.size_eq s
  obtain ⟨l, hl⟩ : ∃ l, s.data.toList = l := ⟨_, rfl⟩
  rw [hl] at HN hsz ⊢
  clear hl hbw
  go_enter Tryz.func100, Tryz.ntmps100
  go_wp2
  go_loopw [10] (fun i wr => Below w.heap.size w wr ∧ ∃ k : Nat, k ≤ l.length ∧ i = .int .i64 (k : Int) ∧ Hid (BytesAt wr w.heap.size (smallTo l k))) (fun i _ => l.length - (intOf i).toNat)
  case atStart => exact ⟨HB.out, 0, Nat.zero_le _, rfl, by rw [smallTo_zero]; exact HN⟩
  case round =>
    obtain ⟨hb, k, hk, rfl, hO⟩ := hrel
    have HB2 := Lib.hid hb
    clear hb hS
    by_cases hlt : k < l.length
    · obtain ⟨x, hx⟩ : ∃ x, l[k]? = some x := ⟨l[k], by simp [hlt]⟩
      have hc := hO.out.cell (smallTo_at l k x hx)
      have hf := hO.out.free (i := k) (by rw [smallTo_length]; exact hlt)
      have hx0 : x.toNat < 256 := x.toNat_lt
      by_cases hu : upperB x = true
      · have hst := hO.out.set k (smallB x)
        rw [smallTo_set l k x hx, smallB_up hu] at hst
        have HS := Lib.hid hst
        have hx1 := (upperB_iff hu).1
        have hx2 := (upperB_iff hu).2
        clear hst hu hx
        go_wp2
        go_roundw
        case rel => exact ⟨HB2.out.setCell (p := ⟨w.heap.size, k, none⟩) (Nat.le_refl _) _, k + 1, by omega, by go_num, by first | exact HS | (have h := HS.out; rw [show ((x.toNat + 32 : Nat) : Int) = (x.toNat : Int) - 65 + 97 by omega] at h; exact h)⟩
        case measure => simp [intOf]; omega
      · have hu' : upperB x = false := by simpa using hu
        have HS := hO
        rw [← smallTo_same l k x hx hu'] at HS
        clear hO hx
        rcases upperB_not hu' with h1 | h1
        all_goals
          clear hu hu'
          go_wp2
          go_roundw
          case rel => exact ⟨HB2.out, k + 1, by omega, by go_num, HS⟩
          case measure => simp [intOf]; omega
    · obtain rfl : k = l.length := by omega
      have hcv := hO.out.string l.length (grownCap w l.length 0 5) (smallTo_length l l.length)
      rw [smallTo_all] at hcv
      go_wp2
      go_ret
      exact ⟨rfl, HB2.out⟩
set_option maxRecDepth 100000 in
set_option maxHeartbeats 1600000 in
/-- The document's Small. -/
theorem refSmall_any (s : ByteArray) (w : World) (hs : s.size < 4294967281) :
    Calls Tryz.prog 76 #[.string s] w fun e w' => e = .returned (.string ⟨(s.data.toList.map smallB).toArray⟩) ∧ Below w.heap.size w w' := by
  have hS := Lib.run_convert_string_bytes (P := Tryz.prog) w 9 50 5 s Tryz.underlying9 Tryz.underlying50 Tryz.underlying5
  have hbw := Lib.bytesWorld_below w 5 s
  have HN := Lib.hid (bytesAt_new w s)
  have HB := Lib.hid hbw
  have hsz := Lib.size_eq s
  obtain ⟨l, hl⟩ : ∃ l, s.data.toList = l := ⟨_, rfl⟩
  rw [hl] at HN hsz ⊢
  clear hl hbw
  go_enter Tryz.func76, Tryz.ntmps76
  go_wp2
  go_loopw [4] (fun i wr => Below w.heap.size w wr ∧ ∃ k : Nat, k ≤ l.length ∧ i = .int .i64 (k : Int) ∧ Hid (BytesAt wr w.heap.size (smallTo l k))) (fun i _ => l.length - (intOf i).toNat)
  case atStart => exact ⟨HB.out, 0, Nat.zero_le _, rfl, by rw [smallTo_zero]; exact HN⟩
  case round =>
    obtain ⟨hb, k, hk, rfl, hO⟩ := hrel
    have HB2 := Lib.hid hb
    clear hb hS
    by_cases hlt : k < l.length
    · obtain ⟨x, hx⟩ : ∃ x, l[k]? = some x := ⟨l[k], by simp [hlt]⟩
      have hc := hO.out.cell (smallTo_at l k x hx)
      have hf := hO.out.free (i := k) (by rw [smallTo_length]; exact hlt)
      have hx0 : x.toNat < 256 := x.toNat_lt
      by_cases hu : upperB x = true
      · have hst := hO.out.set k (smallB x)
        rw [smallTo_set l k x hx, smallB_up hu] at hst
        have HS := Lib.hid hst
        have hx1 := (upperB_iff hu).1
        have hx2 := (upperB_iff hu).2
        clear hst hu hx
        go_wp2
        go_roundw
        case rel => exact ⟨HB2.out.setCell (p := ⟨w.heap.size, k, none⟩) (Nat.le_refl _) _, k + 1, by omega, by go_num, by first | exact HS | (have h := HS.out; rw [show ((x.toNat + 32 : Nat) : Int) = (x.toNat : Int) + 32 by omega] at h; exact h)⟩
        case measure => simp [intOf]; omega
      · have hu' : upperB x = false := by simpa using hu
        have HS := hO
        rw [← smallTo_same l k x hx hu'] at HS
        clear hO hx
        rcases upperB_not hu' with h1 | h1
        all_goals
          clear hu hu'
          go_wp2
          go_roundw
          case rel => exact ⟨HB2.out, k + 1, by omega, by go_num, HS⟩
          case measure => simp [intOf]; omega
    · obtain rfl : k = l.length := by omega
      have hcv := hO.out.string l.length (grownCap w l.length 0 5) (smallTo_length l l.length)
      rw [smallTo_all] at hcv
      go_wp2
      go_ret
      exact ⟨rfl, HB2.out⟩
end Go.Proofs.YtchooidhieaphaaGreatDoor
