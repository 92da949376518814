/- rules.Value at href and src; the law's own trial (live) returns true. -/
import Derived.Test.YtchooidhieaphaaGreatDoorSrc
set_option linter.unusedVariables false
set_option linter.unusedSimpArgs false
namespace Go.Proofs.YtchooidhieaphaaGreatDoor
open Go.RowKit Go.Proofs.YtchooidhieaphaaGreatDoorW.PrintWords PRulesValues

theorem hrefF_off (v : List UInt8) (h : (hrefF v).2 = false) : (hrefF v).1 = [] := by
  unfold hrefF at h ⊢
  split at h
  · simp at h
  · rw [if_neg (by assumption)]
theorem srcF_off (b : Bool) (l : List S39) (v : List UInt8) (h : (srcF b l v).2 = false) : (srcF b l v).1 = [] := by
  unfold srcF srcG at h ⊢
  split at h
  · simp at h
  · rw [if_neg (by assumption)]
    split at h
    · simp at h
    · rw [if_neg (by assumption)]
theorem off_same {p : List UInt8 × Bool} (h : p.2 = false → p.1 = []) : (if p.2 then Value.tuple #[.string ⟨p.1.toArray⟩, .bool true] else .tuple #[.string ⟨#[]⟩, .bool false]) = .tuple #[.string ⟨p.1.toArray⟩, .bool p.2] := by
  cases hp : p.2 with
  | false => rw [h hp]; rfl
  | true => rfl

theorem value_href (b1 b2 b3 : Bool) (A : Option Addr) (n c : Nat) (e v : ByteArray) (w : World) (hG : Good w) (he : e.size < 4294967281) (hv : v.size < 4294967281) (h1 : attrF e.data.toList [104, 114, 101, 102] = true) :
    Calls Tryz.prog 14 #[.agg #[.bool b1, .bool b2, .bool b3], .slice A n c, .string e, .agg #[.string ⟨#[104, 114, 101, 102]⟩, .string v]] w fun en w' => en = .returned (.tuple #[.string ⟨(hrefF v.data.toList).1.toArray⟩, .bool (hrefF v.data.toList).2]) ∧ Below w.heap.size w w' := by
  refine (value_walk b1 b2 b3 A n c e ⟨#[104, 114, 101, 102]⟩ v ⟨(hrefF v.data.toList).1.toArray⟩ (hrefF v.data.toList).2 23 w hG he (by decide) h1 (by rfl) (fun args w => (by kernel_rfl)) (fun w1 hb => href_any b1 b2 b3 A n c v w1 (hG.below hb) hv)).mono ?_
  rintro en w' ⟨rfl, hb⟩
  exact ⟨congrArg Ending.returned (off_same (hrefF_off _)), hb⟩
theorem value_src (b1 b2 b3 : Bool) (A : Option Addr) (c : Nat) (l : List S39) (e v : ByteArray) (w : World) (hG : Good w) (he : e.size < 4294967281) (hv : v.size < 4294967281) (hC : Kd.C k39 w A l.length l) (hl : l.length < 9223372036854775807) (h1 : attrF e.data.toList [115, 114, 99] = true) :
    Calls Tryz.prog 14 #[.agg #[.bool b1, .bool b2, .bool b3], .slice A l.length c, .string e, .agg #[.string ⟨#[115, 114, 99]⟩, .string v]] w fun en w' => en = .returned (.tuple #[.string ⟨(srcF b1 l v.data.toList).1.toArray⟩, .bool (srcF b1 l v.data.toList).2]) ∧ Below w.heap.size w w' := by
  refine (value_walk b1 b2 b3 A l.length c e ⟨#[115, 114, 99]⟩ v ⟨(srcF b1 l v.data.toList).1.toArray⟩ (srcF b1 l v.data.toList).2 24 w hG he (by decide) h1 (by rfl) (fun args w => (by kernel_rfl)) (fun w1 hb => src_any b1 b2 b3 A c l v w1 (hG.below hb) hv (Kd.C_below hC hb) hl)).mono ?_
  rintro en w' ⟨rfl, hb⟩
  exact ⟨congrArg Ending.returned (off_same (srcF_off _ _ _)), hb⟩

/-- The two parts of the law's own trial. -/
def two : List S39 := [⟨⟨#[]⟩, ⟨#[116, 101, 120, 116, 47, 99, 115, 115]⟩, ⟨#[121]⟩, ⟨#[]⟩⟩, ⟨⟨#[]⟩, ⟨#[105, 109, 97, 103, 101, 47, 112, 110, 103]⟩, ⟨#[120]⟩, ⟨#[]⟩⟩]
set_option maxRecDepth 100000 in
theorem two_one : srcF false two [67, 73, 68, 58, 120] = ([97, 116, 116, 58, 49], true) := by decide +kernel
set_option maxRecDepth 100000 in
theorem two_two : srcF false two [99, 105, 100, 58, 121] = ([], false) := by decide +kernel
set_option maxRecDepth 100000 in
theorem far_one : hrefF [32, 104, 116, 116, 112, 115, 58, 47, 47, 104, 10, 47] = ([104, 116, 116, 112, 115, 58, 47, 47, 104, 47], true) := by decide +kernel
set_option maxRecDepth 100000 in
theorem far_two : hrefF [106, 97, 118, 97, 115, 99, 114, 105, 112, 116, 58, 120] = ([], false) := by decide +kernel
set_option maxRecDepth 100000 in
theorem block_one : blockF false [105, 109, 103] [115, 114, 99] [104, 116, 116, 112, 58, 47, 47, 104] = true := by decide +kernel
theorem attr_one : attrF [97] [104, 114, 101, 102] = true := by decide +kernel
theorem attr_two : attrF [105, 109, 103] [115, 114, 99] = true := by decide +kernel
theorem attr_three : attrF [97] [111, 110, 99, 108, 105, 99, 107] = false := by decide +kernel
theorem elem_b : elemF [98] = 2 := by decide +kernel
theorem elem_script : elemF [115, 99, 114, 105, 112, 116] = 0 := by decide +kernel
theorem elem_font : elemF [102, 111, 110, 116] = 1 := by decide +kernel

def rowTwo : Array Value := #[.string ⟨#[]⟩, .string ⟨#[116, 101, 120, 116, 47, 99, 115, 115]⟩, .string ⟨#[121]⟩, .string ⟨#[]⟩, .string ⟨#[]⟩, .string ⟨#[105, 109, 97, 103, 101, 47, 112, 110, 103]⟩, .string ⟨#[120]⟩, .string ⟨#[]⟩]
theorem two_C (w : World) : Kd.C k39 (w.alloc (.cells rowTwo 39)) (some ⟨w.heap.size, 0, none⟩) two.length two := by
  refine ⟨rfl, by decide, fun _ => ⟨_, rfl, fun j p hp => ?_⟩⟩
  match j, hp with
  | 0, hp =>
    injection hp with hp
    subst hp
    refine ⟨_, rfl, k39_mk _ _, fun i u hu => ?_⟩
    rw [Addr.add_lit]
    refine alloc_cell w rowTwo 39 (0 + (0 * 4 + i)) u ?_
    match i, hu with
    | 0, hu => exact hu
    | 1, hu => exact hu
    | 2, hu => exact hu
    | 3, hu => exact hu
    | n + 4, hu => simp at hu
  | 1, hp =>
    injection hp with hp
    subst hp
    refine ⟨_, rfl, k39_mk _ _, fun i u hu => ?_⟩
    rw [Addr.add_lit]
    refine alloc_cell w rowTwo 39 (0 + (1 * 4 + i)) u ?_
    match i, hu with
    | 0, hu => exact hu
    | 1, hu => exact hu
    | 2, hu => exact hu
    | 3, hu => exact hu
    | n + 4, hu => simp at hu
  | n + 2, hp => simp [two] at hp

set_option maxRecDepth 100000 in
set_option maxHeartbeats 3200000 in
theorem live_any (w : World) (hG : Good w) : Calls Tryz.prog 12 #[] w fun en w' => en = .returned (.bool true) ∧ Below w.heap.size w w' := by
  have hB : Below w.heap.size w (w.alloc (.cells rowTwo 39)) := (Below.refl _ _).alloc (Nat.le_refl _) _
  have HG0 := Lib.hid (hG.below hB)
  have HB0 := Lib.hid hB
  have H1 := Lib.hid (fun w1 (hb : Below w.heap.size w w1) (hC : Kd.C k39 w1 (some ⟨w.heap.size, 0, none⟩) two.length two) => by
    have := value_src false false false (some ⟨w.heap.size, 0, none⟩) 2 two ⟨#[105, 109, 103]⟩ ⟨#[67, 73, 68, 58, 120]⟩ w1 (hG.below hb) (by decide) (by decide) hC (by decide) attr_two
    rwa [show srcF false two (⟨#[67, 73, 68, 58, 120]⟩ : ByteArray).data.toList = ([97, 116, 116, 58, 49], true) from two_one] at this)
  have H2 := Lib.hid (fun w1 (hb : Below w.heap.size w w1) (hC : Kd.C k39 w1 (some ⟨w.heap.size, 0, none⟩) two.length two) => by
    have := value_src false false false (some ⟨w.heap.size, 0, none⟩) 2 two ⟨#[105, 109, 103]⟩ ⟨#[99, 105, 100, 58, 121]⟩ w1 (hG.below hb) (by decide) (by decide) hC (by decide) attr_two
    rwa [show srcF false two (⟨#[99, 105, 100, 58, 121]⟩ : ByteArray).data.toList = ([], false) from two_two] at this)
  have H3 := Lib.hid (fun w1 (hb : Below w.heap.size w w1) => by
    have := value_href false false false none 0 0 ⟨#[97]⟩ ⟨#[32, 104, 116, 116, 112, 115, 58, 47, 47, 104, 10, 47]⟩ w1 (hG.below hb) (by decide) (by decide) attr_one
    rwa [show hrefF (⟨#[32, 104, 116, 116, 112, 115, 58, 47, 47, 104, 10, 47]⟩ : ByteArray).data.toList = ([104, 116, 116, 112, 115, 58, 47, 47, 104, 47], true) from far_one] at this)
  have H4 := Lib.hid (fun w1 (hb : Below w.heap.size w w1) => by
    have := value_href false false false none 0 0 ⟨#[97]⟩ ⟨#[106, 97, 118, 97, 115, 99, 114, 105, 112, 116, 58, 120]⟩ w1 (hG.below hb) (by decide) (by decide) attr_one
    rwa [show hrefF (⟨#[106, 97, 118, 97, 115, 99, 114, 105, 112, 116, 58, 120]⟩ : ByteArray).data.toList = ([], false) from far_two] at this)
  have HE1 := Lib.hid (fun w1 (hb : Below w.heap.size w w1) => by
    have := element_any ⟨#[98]⟩ w1 (hG.below hb) (by decide)
    rwa [show elemF (⟨#[98]⟩ : ByteArray).data.toList = 2 from elem_b] at this)
  have HE2 := Lib.hid (fun w1 (hb : Below w.heap.size w w1) => by
    have := element_any ⟨#[115, 99, 114, 105, 112, 116]⟩ w1 (hG.below hb) (by decide)
    rwa [show elemF (⟨#[115, 99, 114, 105, 112, 116]⟩ : ByteArray).data.toList = 0 from elem_script] at this)
  have HE3 := Lib.hid (fun w1 (hb : Below w.heap.size w w1) => by
    have := element_any ⟨#[102, 111, 110, 116]⟩ w1 (hG.below hb) (by decide)
    rwa [show elemF (⟨#[102, 111, 110, 116]⟩ : ByteArray).data.toList = 1 from elem_font] at this)
  have HA1 := Lib.hid (fun w1 (hb : Below w.heap.size w w1) => by
    have := attr_any ⟨#[97]⟩ ⟨#[104, 114, 101, 102]⟩ w1 (hG.below hb) (by decide) (by decide)
    rwa [show attrF (⟨#[97]⟩ : ByteArray).data.toList (⟨#[104, 114, 101, 102]⟩ : ByteArray).data.toList = true from attr_one] at this)
  have HA2 := Lib.hid (fun w1 (hb : Below w.heap.size w w1) => by
    have := attr_any ⟨#[97]⟩ ⟨#[111, 110, 99, 108, 105, 99, 107]⟩ w1 (hG.below hb) (by decide) (by decide)
    rwa [show attrF (⟨#[97]⟩ : ByteArray).data.toList (⟨#[111, 110, 99, 108, 105, 99, 107]⟩ : ByteArray).data.toList = false from attr_three] at this)
  have HBl := Lib.hid (fun w1 (hb : Below w.heap.size w w1) => by
    have := blocked_any false false false ⟨#[105, 109, 103]⟩ ⟨#[115, 114, 99]⟩ ⟨#[104, 116, 116, 112, 58, 47, 47, 104]⟩ w1 (hG.below hb) (by decide)
    rwa [show blockF false (⟨#[105, 109, 103]⟩ : ByteArray).data.toList (⟨#[115, 114, 99]⟩ : ByteArray).data.toList (⟨#[104, 116, 116, 112, 58, 47, 47, 104]⟩ : ByteArray).data.toList = true from block_one] at this)
  clear hG hB
  go_enter Tryz.func12, Tryz.ntmps12
  go_wp2_with fail
  refine (H1.out _ HB0.out (two_C w)).mono ?_
  rintro en w1 ⟨rfl, hb⟩
  have HB1 := Lib.hid (below_then' HB0.out hb)
  have HC1 := Lib.hid (Kd.C_below (two_C w) hb)
  clear hb
  go_wp2_with fail
  refine (H2.out w1 HB1.out HC1.out).mono ?_
  rintro en w2 ⟨rfl, hb⟩
  have HB2 := Lib.hid (below_then' HB1.out hb)
  clear hb
  go_wp2_with fail
  refine (H3.out w2 HB2.out).mono ?_
  rintro en w3 ⟨rfl, hb⟩
  have HB3 := Lib.hid (below_then' HB2.out hb)
  clear hb
  go_wp2_with fail
  refine (H4.out w3 HB3.out).mono ?_
  rintro en w4 ⟨rfl, hb⟩
  have HB4 := Lib.hid (below_then' HB3.out hb)
  clear hb
  go_wp2_with fail
  refine (HE1.out w4 HB4.out).mono ?_
  rintro en w' ⟨rfl, rfl⟩
  go_wp2_with fail
  refine (HE2.out w4 HB4.out).mono ?_
  rintro en w' ⟨rfl, rfl⟩
  go_wp2_with fail
  refine (HE3.out w4 HB4.out).mono ?_
  rintro en w' ⟨rfl, rfl⟩
  go_wp2_with fail
  refine (HA1.out w4 HB4.out).mono ?_
  rintro en w5 ⟨rfl, hb⟩
  have HB5 := Lib.hid (below_then' HB4.out hb)
  clear hb
  go_wp2_with fail
  refine (HA2.out w5 HB5.out).mono ?_
  rintro en w6 ⟨rfl, hb⟩
  have HB6 := Lib.hid (below_then' HB5.out hb)
  clear hb
  go_wp2_with fail
  refine (HBl.out w6 HB6.out).mono ?_
  rintro en w7 ⟨rfl, hb⟩
  have HB7 := Lib.hid (below_then' HB6.out hb)
  clear hb
  go_wp2_with fail
  go_ret
  exact ⟨rfl, HB7.out⟩
end Go.Proofs.YtchooidhieaphaaGreatDoor
