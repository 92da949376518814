/- The document's Value, walked: it returns what valueF says. Condition: texts below 2^32 - 96 bytes. -/
import Derived.Test.YtchooidhieaphaaGreatDoorRefSrc
import Derived.Test.YtchooidhieaphaaGreatDoorRefCss
import Derived.Test.YtchooidhieaphaaGreatDoorRefNames
set_option linter.unusedVariables false
set_option linter.unusedSimpArgs false
namespace Go.Proofs.YtchooidhieaphaaGreatDoor
open Go.RowKit Go.Proofs.YtchooidhieaphaaGreatDoorW.PrintWords PRulesValues PQ
theorem drawn_below {w w' : World} (h : ∃ n, w' = w.drewN n) : Below w.heap.size w w' := by
  obtain ⟨n, rfl⟩ := h
  exact below_drewN' (Below.refl _ _) n
theorem rclean_any (s : ByteArray) (w : World) (hs : s.size < 4294967281) : Calls Tryz.prog 32 #[.string s] w fun e w' => e = .returned (.string ⟨(cleanF s.data.toList).toArray⟩) ∧ Below w.heap.size w w' :=
  muslinref16_Clean.calls _ s _ w (ref_clean s (by omega) _ (Nat.le_refl _))
theorem rkind_any (s : ByteArray) (w : World) (hs : s.size < 4294967281) : Calls Tryz.prog 30 #[.string s] w fun e w' => e = .returned (.int .i64 (kindF s.data.toList)) ∧ Below w.heap.size w w' :=
  muslinref16_Kind.calls _ s _ w (ref_kind s hs _ (Nat.le_refl _))
theorem rsrc_any (b1 b2 b3 : Bool) (A : Option Addr) (c : Nat) (l : List S39) (v : ByteArray) (w : World) (hs : v.size < 4294967281) (hC : Kd.C k39 w A l.length l) (hc : l.length ≤ c) (hl : l.length < 4294967296) :
    Calls Tryz.prog 33 #[.agg #[.bool b1, .bool b2, .bool b3], .slice A l.length c, .string v] w fun e w' => e = .returned (.tuple #[.string ⟨(srcF b1 l v.data.toList).1.toArray⟩, .bool (srcF b1 l v.data.toList).2]) ∧ Below w.heap.size w w' :=
  muslinref18_src.calls _ b1 b2 b3 A c l v _ _ w hC hc (ref_src b1 b2 b3 l v hs hl _ (Nat.le_refl _))
theorem rcss_any (s : ByteArray) (w : World) (hs : s.size < 4294967281) : Calls Tryz.prog 34 #[.string s] w fun e w' => e = .returned (.string ⟨(cssF s.data.toList).toArray⟩) ∧ Below w.heap.size w w' :=
  muslinref17_Clean.calls _ s _ w (ref_css s hs _ (Nat.le_refl _))
theorem rblocked_any (b1 b2 b3 : Bool) (e n v : ByteArray) (w : World) (hv : v.size < 4294967281) :
    Calls Tryz.prog 17 #[.agg #[.bool b1, .bool b2, .bool b3], .string e, .agg #[.string n, .string v]] w fun en w' => en = .returned (.bool (blockF b1 e.data.toList n.data.toList v.data.toList)) ∧ Below w.heap.size w w' :=
  muslinref18_Blocked.calls _ b1 b2 b3 e n v _ w (ref_blocked b1 b2 b3 e n v hv _ (Nat.le_refl _))
theorem rattr_any (s a : ByteArray) (w : World) : Calls Tryz.prog 11 #[.string s, .string a] w fun e w' => e = .returned (.bool (attrF s.data.toList a.data.toList)) ∧ Below w.heap.size w w' :=
  (refAttr_any s a w).mono fun _ _ h => ⟨h.1, drawn_below h.2⟩
theorem rlang_any (v : ByteArray) (w : World) (hs : v.size < 4294967281) : Calls Tryz.prog 35 #[.string v] w fun e w' => e = .returned (.bool (madeF langSet 20 v.data.toList)) ∧ ∃ n, w' = w.drewN n :=
  (muslinref18_lang.calls _ v _ w (ref_lang v hs _ (Nat.le_refl _))).mono fun _ _ h => ⟨h.1, h.2.out⟩
theorem rdigits_any (v : ByteArray) (w : World) (hs : v.size < 4294967281) : Calls Tryz.prog 36 #[.string v] w fun e w' => e = .returned (.bool (madeF sizeSet 4 v.data.toList)) ∧ ∃ n, w' = w.drewN n :=
  (muslinref18_digits.calls _ v _ w (ref_digits v hs _ (Nat.le_refl _))).mono fun _ _ h => ⟨h.1, h.2.out⟩
theorem rkept_yes (s : ByteArray) (w : World) : Calls Tryz.prog 31 #[.string s, .bool true] w fun e w' => e = .returned (.tuple #[.string s, .bool true]) ∧ ∃ n, w' = w.drewN n :=
  (muslinref18_kept.calls s true s true w rfl).mono fun _ _ h => ⟨h.1, h.2.out⟩
theorem rkept_no (s : ByteArray) (w : World) : Calls Tryz.prog 31 #[.string s, .bool false] w fun e w' => e = .returned (.tuple #[.string ⟨#[]⟩, .bool false]) ∧ ∃ n, w' = w.drewN n :=
  (muslinref18_kept.calls s false ⟨#[]⟩ false w rfl).mono fun _ _ h => ⟨h.1, h.2.out⟩
/-- What is known of the two boxes. -/
structure Boxed (w w1 : World) (b1 b2 b3 : Bool) (nm v : ByteArray) : Prop where
  below : Below w.heap.size w w1
  p0 : w1.cell? ⟨w.heap.size, 0, none⟩ = some (.bool b1)
  p1 : w1.cell? ⟨w.heap.size, 1, none⟩ = some (.bool b2)
  p2 : w1.cell? ⟨w.heap.size, 2, none⟩ = some (.bool b3)
  a0 : w1.cell? ⟨w.heap.size + 1, 0, none⟩ = some (.string nm)
  a1 : w1.cell? ⟨w.heap.size + 1, 1, none⟩ = some (.string v)
theorem Boxed.step {w w1 w2 : World} {b1 b2 b3 : Bool} {nm v : ByteArray} (h : Boxed w w1 b1 b2 b3 nm v) (hb : Below w1.heap.size w1 w2) : Boxed w w2 b1 b2 b3 nm v :=
  ⟨below_then' h.below hb, cell_later hb h.p0, cell_later hb h.p1, cell_later hb h.p2, cell_later hb h.a0, cell_later hb h.a1⟩
theorem Boxed.start (w : World) (b1 b2 b3 : Bool) (nm v : ByteArray) : Boxed w ((w.alloc (Obj.cells #[Value.bool b1, Value.bool b2, Value.bool b3] 26)).alloc (Obj.cells #[Value.string nm, Value.string v] 29)) b1 b2 b3 nm v := by
  have hb : Below (w.alloc (Obj.cells #[Value.bool b1, Value.bool b2, Value.bool b3] 26)).heap.size (w.alloc (Obj.cells #[Value.bool b1, Value.bool b2, Value.bool b3] 26)) ((w.alloc (Obj.cells #[Value.bool b1, Value.bool b2, Value.bool b3] 26)).alloc (Obj.cells #[Value.string nm, Value.string v] 29)) := (Below.refl _ _).alloc (Nat.le_refl _) _
  have h0 := alloc_cell (w.alloc (Obj.cells #[Value.bool b1, Value.bool b2, Value.bool b3] 26)) #[Value.string nm, Value.string v] 29 0 (.string nm) rfl
  have h1 := alloc_cell (w.alloc (Obj.cells #[Value.bool b1, Value.bool b2, Value.bool b3] 26)) #[Value.string nm, Value.string v] 29 1 (.string v) rfl
  rw [alloc_size] at h0 h1
  exact ⟨two_below _ _ _, cell_later hb (alloc_cell _ _ _ _ _ rfl), cell_later hb (alloc_cell _ _ _ _ _ rfl), cell_later hb (alloc_cell _ _ _ _ _ rfl), h0, h1⟩
set_option maxRecDepth 100000 in
set_option maxHeartbeats 1600000 in
theorem rv_off (b1 b2 b3 : Bool) (A : Option Addr) (n c : Nat) (e nm v : ByteArray) (w : World) (h1 : attrF e.data.toList nm.data.toList = false) :
    Calls Tryz.prog 15 #[.agg #[.bool b1, .bool b2, .bool b3], .slice A n c, .string e, .agg #[.string nm, .string v]] w fun en w' => en = .returned (.tuple #[.string ⟨#[]⟩, .bool false]) ∧ Below w.heap.size w w' := by
  have HA := Lib.hid (fun w1 => rattr_any e nm w1)
  rw [h1] at HA
  have HB0 := Lib.hid (Boxed.start w b1 b2 b3 nm v)
  obtain ⟨W0, hW0⟩ : ∃ W0, (w.alloc (Obj.cells #[Value.bool b1, Value.bool b2, Value.bool b3] 26)).alloc (Obj.cells #[Value.string nm, Value.string v] 29) = W0 := ⟨_, rfl⟩
  rw [hW0] at HB0
  have HW0 := Lib.hid hW0
  clear hW0 h1
  go_enter Tryz.func15, Tryz.ntmps15
  go_wp2_with fail
  rw [HW0.out]
  refine (HA.out W0).mono ?_
  rintro en w1 ⟨rfl, hb⟩
  have HB1 := Lib.hid (HB0.out.step hb)
  clear hb
  go_wp2_with fail
  go_ret2
  exact ⟨rfl, HB1.out.below⟩
set_option maxRecDepth 100000 in
set_option maxHeartbeats 1600000 in
theorem rv_href (b1 b2 b3 : Bool) (A : Option Addr) (n c : Nat) (e v : ByteArray) (w : World) (hv : v.size < 4294967281) (h1 : attrF e.data.toList [104, 114, 101, 102] = true) :
    Calls Tryz.prog 15 #[.agg #[.bool b1, .bool b2, .bool b3], .slice A n c, .string e, .agg #[.string ⟨#[104, 114, 101, 102]⟩, .string v]] w fun en w' => en = .returned (.tuple #[.string ⟨(hrefF v.data.toList).1.toArray⟩, .bool (hrefF v.data.toList).2]) ∧ Below w.heap.size w w' := by
  have HK := Lib.hid (fun w1 => rkind_any v w1 hv)
  have HC := Lib.hid (fun w1 => rclean_any v w1 hv)
  have hR : hrefF v.data.toList = if 1 ≤ kindF v.data.toList ∧ kindF v.data.toList ≤ 3 then (cleanF v.data.toList, true) else ([], false) := rfl
  rw [hR]
  clear hR
  generalize kindF v.data.toList = k at *
  obtain ⟨cb, hcb⟩ : ∃ cb : ByteArray, (⟨(cleanF v.data.toList).toArray⟩ : ByteArray) = cb := ⟨_, rfl⟩
  rw [hcb] at HC
  have hcl : cleanF v.data.toList = cb.data.toList := by rw [← hcb]
  rw [hcl]
  clear hcb hcl hv
  have HA := Lib.hid (fun w1 => rattr_any e (⟨#[104, 114, 101, 102]⟩ : ByteArray) w1)
  rw [show (⟨#[104, 114, 101, 102]⟩ : ByteArray).data.toList = [104, 114, 101, 102] from rfl, h1] at HA
  have HB0 := Lib.hid (Boxed.start w b1 b2 b3 (⟨#[104, 114, 101, 102]⟩ : ByteArray) v)
  obtain ⟨W0, hW0⟩ : ∃ W0, (w.alloc (Obj.cells #[Value.bool b1, Value.bool b2, Value.bool b3] 26)).alloc (Obj.cells #[Value.string (⟨#[104, 114, 101, 102]⟩ : ByteArray), Value.string v] 29) = W0 := ⟨_, rfl⟩
  rw [hW0] at HB0
  have HW0 := Lib.hid hW0
  clear hW0 h1
  by_cases hk1 : 1 ≤ k
  · by_cases hk3 : k ≤ 3
    · rw [if_pos ⟨hk1, hk3⟩]
      go_enter Tryz.func15, Tryz.ntmps15
      go_wp2_with fail
      rw [HW0.out]
      refine (HA.out W0).mono ?_
      rintro en w1 ⟨rfl, hb⟩
      have HB1 := Lib.hid (HB0.out.step hb)
      clear hb
      have ya0 := HB1.out.a0
      have ya1 := HB1.out.a1
      go_wp2_with fail
      refine (HK.out w1).mono ?_
      rintro en w2 ⟨rfl, hb⟩
      have HB2 := Lib.hid (HB1.out.step hb)
      clear hb ya0 ya1
      have ya1 := HB2.out.a1
      go_wp2_with fail
      refine (HC.out w2).mono ?_
      rintro en w3 ⟨rfl, hb⟩
      have HB3 := Lib.hid (HB2.out.step hb)
      clear hb ya1
      go_wp2_with fail
      refine (rkept_yes cb w3).mono ?_
      rintro en w4 ⟨rfl, hb⟩
      have HB4 := Lib.hid (HB3.out.step (drawn_below hb))
      clear hb
      go_wp2_with fail
      go_ret2
      exact ⟨rfl, HB4.out.below⟩
    · rw [if_neg (fun h => hk3 h.2)]
      have hk4 : decide (k ≤ 3) = false := decide_eq_false hk3
      clear hk3
      go_enter Tryz.func15, Tryz.ntmps15
      go_wp2_with fail
      rw [HW0.out]
      refine (HA.out W0).mono ?_
      rintro en w1 ⟨rfl, hb⟩
      have HB1 := Lib.hid (HB0.out.step hb)
      clear hb
      have ya0 := HB1.out.a0
      have ya1 := HB1.out.a1
      go_wp2_with fail
      refine (HK.out w1).mono ?_
      rintro en w2 ⟨rfl, hb⟩
      have HB2 := Lib.hid (HB1.out.step hb)
      clear hb ya0 ya1
      have ya1 := HB2.out.a1
      go_wp2_with fail
      refine (HC.out w2).mono ?_
      rintro en w3 ⟨rfl, hb⟩
      have HB3 := Lib.hid (HB2.out.step hb)
      clear hb ya1
      go_wp2_with fail
      refine (rkept_no cb w3).mono ?_
      rintro en w4 ⟨rfl, hb⟩
      have HB4 := Lib.hid (HB3.out.step (drawn_below hb))
      clear hb
      go_wp2_with fail
      go_ret2
      exact ⟨rfl, HB4.out.below⟩
  · rw [if_neg (fun h => hk1 h.1)]
    have hk4 : k < 1 := by omega
    clear hk1
    go_enter Tryz.func15, Tryz.ntmps15
    go_wp2_with fail
    rw [HW0.out]
    refine (HA.out W0).mono ?_
    rintro en w1 ⟨rfl, hb⟩
    have HB1 := Lib.hid (HB0.out.step hb)
    clear hb
    have ya0 := HB1.out.a0
    have ya1 := HB1.out.a1
    go_wp2_with fail
    refine (HK.out w1).mono ?_
    rintro en w2 ⟨rfl, hb⟩
    have HB2 := Lib.hid (HB1.out.step hb)
    clear hb ya0 ya1
    have ya1 := HB2.out.a1
    go_wp2_with fail
    refine (HC.out w2).mono ?_
    rintro en w3 ⟨rfl, hb⟩
    have HB3 := Lib.hid (HB2.out.step hb)
    clear hb ya1
    go_wp2_with fail
    refine (rkept_no cb w3).mono ?_
    rintro en w4 ⟨rfl, hb⟩
    have HB4 := Lib.hid (HB3.out.step (drawn_below hb))
    clear hb
    go_wp2_with fail
    go_ret2
    exact ⟨rfl, HB4.out.below⟩
set_option maxRecDepth 100000 in
set_option maxHeartbeats 1600000 in
theorem rv_src (b1 b2 b3 : Bool) (A : Option Addr) (n c : Nat) (e v : ByteArray) (w : World) (l : List S39) (hn : n = l.length) (hv : v.size < 4294967281) (hC : Kd.C k39 w A l.length l) (hc : l.length ≤ c) (hl : l.length < 4294967296) (h1 : attrF e.data.toList [115, 114, 99] = true) :
    Calls Tryz.prog 15 #[.agg #[.bool b1, .bool b2, .bool b3], .slice A n c, .string e, .agg #[.string ⟨#[115, 114, 99]⟩, .string v]] w fun en w' => en = .returned (.tuple #[.string ⟨(srcF b1 l v.data.toList).1.toArray⟩, .bool (srcF b1 l v.data.toList).2]) ∧ Below w.heap.size w w' := by
  subst hn
  have HS := Lib.hid (fun w1 (hb : Below w.heap.size w w1) => rsrc_any b1 b2 b3 A c l v w1 hv (Kd.C_below hC hb) hc hl)
  generalize srcF b1 l v.data.toList = p at *
  clear hC hc hl hv
  have HA := Lib.hid (fun w1 => rattr_any e (⟨#[115, 114, 99]⟩ : ByteArray) w1)
  rw [show (⟨#[115, 114, 99]⟩ : ByteArray).data.toList = [115, 114, 99] from rfl, h1] at HA
  have HB0 := Lib.hid (Boxed.start w b1 b2 b3 (⟨#[115, 114, 99]⟩ : ByteArray) v)
  obtain ⟨W0, hW0⟩ : ∃ W0, (w.alloc (Obj.cells #[Value.bool b1, Value.bool b2, Value.bool b3] 26)).alloc (Obj.cells #[Value.string (⟨#[115, 114, 99]⟩ : ByteArray), Value.string v] 29) = W0 := ⟨_, rfl⟩
  rw [hW0] at HB0
  have HW0 := Lib.hid hW0
  clear hW0 h1
  go_enter Tryz.func15, Tryz.ntmps15
  go_wp2_with fail
  rw [HW0.out]
  refine (HA.out W0).mono ?_
  rintro en w1 ⟨rfl, hb⟩
  have HB1 := Lib.hid (HB0.out.step hb)
  clear hb
  have yp0 := HB1.out.p0
  have yp1 := HB1.out.p1
  have yp2 := HB1.out.p2
  have ya0 := HB1.out.a0
  have ya1 := HB1.out.a1
  go_wp2_with fail
  refine (HS.out w1 HB1.out.below).mono ?_
  rintro en w2 ⟨rfl, hb⟩
  have HB2 := Lib.hid (HB1.out.step hb)
  clear hb yp0 yp1 yp2 ya0 ya1
  go_wp2_with fail
  go_ret2
  exact ⟨rfl, HB2.out.below⟩
set_option maxRecDepth 100000 in
set_option maxHeartbeats 1600000 in
theorem rv_style (b1 b2 b3 : Bool) (A : Option Addr) (n c : Nat) (e v : ByteArray) (w : World) (hv : v.size < 4294967281) (h1 : attrF e.data.toList [115, 116, 121, 108, 101] = true) :
    Calls Tryz.prog 15 #[.agg #[.bool b1, .bool b2, .bool b3], .slice A n c, .string e, .agg #[.string ⟨#[115, 116, 121, 108, 101]⟩, .string v]] w fun en w' => en = .returned (.tuple #[.string ⟨(if (styleF b2 v.data.toList).2 = true then (styleF b2 v.data.toList).1 else []).toArray⟩, .bool (styleF b2 v.data.toList).2]) ∧ Below w.heap.size w w' := by
  have HC := Lib.hid (fun w1 => rcss_any v w1 hv)
  unfold styleF
  obtain ⟨cb, hcb⟩ : ∃ cb : ByteArray, (⟨(cssF v.data.toList).toArray⟩ : ByteArray) = cb := ⟨_, rfl⟩
  rw [hcb] at HC
  have hcl : cssF v.data.toList = cb.data.toList := by rw [← hcb]
  rw [hcl]
  clear hcb hcl hv
  have HA := Lib.hid (fun w1 => rattr_any e (⟨#[115, 116, 121, 108, 101]⟩ : ByteArray) w1)
  rw [show (⟨#[115, 116, 121, 108, 101]⟩ : ByteArray).data.toList = [115, 116, 121, 108, 101] from rfl, h1] at HA
  have HB0 := Lib.hid (Boxed.start w b1 b2 b3 (⟨#[115, 116, 121, 108, 101]⟩ : ByteArray) v)
  obtain ⟨W0, hW0⟩ : ∃ W0, (w.alloc (Obj.cells #[Value.bool b1, Value.bool b2, Value.bool b3] 26)).alloc (Obj.cells #[Value.string (⟨#[115, 116, 121, 108, 101]⟩ : ByteArray), Value.string v] 29) = W0 := ⟨_, rfl⟩
  rw [hW0] at HB0
  have HW0 := Lib.hid hW0
  clear hW0 h1
  cases b2 with
  | false =>
    go_enter Tryz.func15, Tryz.ntmps15
    go_wp2_with fail
    rw [HW0.out]
    refine (HA.out W0).mono ?_
    rintro en w1 ⟨rfl, hb⟩
    have HB1 := Lib.hid (HB0.out.step hb)
    clear hb
    have ya0 := HB1.out.a0
    have ya1 := HB1.out.a1
    go_wp2_with fail
    refine (HC.out w1).mono ?_
    rintro en w2 ⟨rfl, hb⟩
    have HB2 := Lib.hid (HB1.out.step hb)
    clear hb ya0 ya1
    have yp1 := HB2.out.p1
    go_wp2_with fail
    refine (rkept_no cb w2).mono ?_
    rintro en w3 ⟨rfl, hb⟩
    have HB3 := Lib.hid (HB2.out.step (drawn_below hb))
    clear hb yp1
    go_wp2_with fail
    go_ret2
    exact ⟨rfl, HB3.out.below⟩
  | true =>
    by_cases hz : cb.data.toList = []
    · have e0 : cb.toList = [] := by rw [ByteArray.toList_eq]; exact hz
      rw [hz]
      clear hz
      go_enter Tryz.func15, Tryz.ntmps15
      go_wp2_with fail
      rw [HW0.out]
      refine (HA.out W0).mono ?_
      rintro en w1 ⟨rfl, hb⟩
      have HB1 := Lib.hid (HB0.out.step hb)
      clear hb
      have ya0 := HB1.out.a0
      have ya1 := HB1.out.a1
      go_wp2_with fail
      refine (HC.out w1).mono ?_
      rintro en w2 ⟨rfl, hb⟩
      have HB2 := Lib.hid (HB1.out.step hb)
      clear hb ya0 ya1
      have yp1 := HB2.out.p1
      go_wp2_with fail
      refine (rkept_no cb w2).mono ?_
      rintro en w3 ⟨rfl, hb⟩
      have HB3 := Lib.hid (HB2.out.step (drawn_below hb))
      clear hb yp1
      go_wp2_with fail
      go_ret2
      exact ⟨rfl, HB3.out.below⟩
    · have e0 : ¬ cb.toList = [] := by rw [ByteArray.toList_eq]; exact hz
      have e1 : cb.toList.isEmpty = false := not_empty e0
      rw [decide_eq_true hz]
      clear hz
      go_enter Tryz.func15, Tryz.ntmps15
      go_wp2_with fail
      rw [HW0.out]
      refine (HA.out W0).mono ?_
      rintro en w1 ⟨rfl, hb⟩
      have HB1 := Lib.hid (HB0.out.step hb)
      clear hb
      have ya0 := HB1.out.a0
      have ya1 := HB1.out.a1
      go_wp2_with fail
      refine (HC.out w1).mono ?_
      rintro en w2 ⟨rfl, hb⟩
      have HB2 := Lib.hid (HB1.out.step hb)
      clear hb ya0 ya1
      have yp1 := HB2.out.p1
      go_wp2_with fail
      refine (rkept_yes cb w2).mono ?_
      rintro en w3 ⟨rfl, hb⟩
      have HB3 := Lib.hid (HB2.out.step (drawn_below hb))
      clear hb yp1
      go_wp2_with fail
      go_ret2
      exact ⟨rfl, HB3.out.below⟩
set_option maxRecDepth 100000 in
set_option maxHeartbeats 1600000 in
theorem rv_dir (b1 b2 b3 : Bool) (A : Option Addr) (n c : Nat) (e v : ByteArray) (w : World) (h1 : attrF e.data.toList [100, 105, 114] = true) :
    Calls Tryz.prog 15 #[.agg #[.bool b1, .bool b2, .bool b3], .slice A n c, .string e, .agg #[.string ⟨#[100, 105, 114]⟩, .string v]] w fun en w' => en = .returned (.tuple #[.string ⟨(if (dirF v.data.toList).2 = true then (dirF v.data.toList).1 else []).toArray⟩, .bool (dirF v.data.toList).2]) ∧ Below w.heap.size w w' := by
  unfold dirF
  have HA := Lib.hid (fun w1 => rattr_any e (⟨#[100, 105, 114]⟩ : ByteArray) w1)
  rw [show (⟨#[100, 105, 114]⟩ : ByteArray).data.toList = [100, 105, 114] from rfl, h1] at HA
  have HB0 := Lib.hid (Boxed.start w b1 b2 b3 (⟨#[100, 105, 114]⟩ : ByteArray) v)
  obtain ⟨W0, hW0⟩ : ∃ W0, (w.alloc (Obj.cells #[Value.bool b1, Value.bool b2, Value.bool b3] 26)).alloc (Obj.cells #[Value.string (⟨#[100, 105, 114]⟩ : ByteArray), Value.string v] 29) = W0 := ⟨_, rfl⟩
  rw [hW0] at HB0
  have HW0 := Lib.hid hW0
  clear hW0 h1
  by_cases h1 : v.data.toList = [108, 116, 114]
  · have e1 := beq_yes h1
    rw [decide_eq_true h1, Bool.true_or]
    clear h1
    go_enter Tryz.func15, Tryz.ntmps15
    go_wp2_with fail
    rw [HW0.out]
    refine (HA.out W0).mono ?_
    rintro en w1 ⟨rfl, hb⟩
    have HB1 := Lib.hid (HB0.out.step hb)
    clear hb
    have ya0 := HB1.out.a0
    have ya1 := HB1.out.a1
    go_wp2_with fail
    refine (rkept_yes v w1).mono ?_
    rintro en w2 ⟨rfl, hb⟩
    have HB2 := Lib.hid (HB1.out.step (drawn_below hb))
    clear hb ya0 ya1
    go_wp2_with fail
    go_ret2
    exact ⟨rfl, HB2.out.below⟩
  · have e1 := beq_no h1
    by_cases h2 : v.data.toList = [114, 116, 108]
    · have e2 := beq_yes h2
      rw [decide_eq_true h2, Bool.true_or, Bool.or_true]
      clear h1 h2
      go_enter Tryz.func15, Tryz.ntmps15
      go_wp2_with fail
      rw [HW0.out]
      refine (HA.out W0).mono ?_
      rintro en w1 ⟨rfl, hb⟩
      have HB1 := Lib.hid (HB0.out.step hb)
      clear hb
      have ya0 := HB1.out.a0
      have ya1 := HB1.out.a1
      go_wp2_with fail
      refine (rkept_yes v w1).mono ?_
      rintro en w2 ⟨rfl, hb⟩
      have HB2 := Lib.hid (HB1.out.step (drawn_below hb))
      clear hb ya0 ya1
      go_wp2_with fail
      go_ret2
      exact ⟨rfl, HB2.out.below⟩
    · have e2 := beq_no h2
      by_cases h3 : v.data.toList = [97, 117, 116, 111]
      · have e3 := beq_yes h3
        rw [decide_eq_true h3, Bool.or_true, Bool.or_true]
        clear h1 h2 h3
        go_enter Tryz.func15, Tryz.ntmps15
        go_wp2_with fail
        rw [HW0.out]
        refine (HA.out W0).mono ?_
        rintro en w1 ⟨rfl, hb⟩
        have HB1 := Lib.hid (HB0.out.step hb)
        clear hb
        have ya0 := HB1.out.a0
        have ya1 := HB1.out.a1
        go_wp2_with fail
        refine (rkept_yes v w1).mono ?_
        rintro en w2 ⟨rfl, hb⟩
        have HB2 := Lib.hid (HB1.out.step (drawn_below hb))
        clear hb ya0 ya1
        go_wp2_with fail
        go_ret2
        exact ⟨rfl, HB2.out.below⟩
      · have e3 := beq_no h3
        rw [decide_eq_false h1, decide_eq_false h2, decide_eq_false h3]
        clear h1 h2 h3
        go_enter Tryz.func15, Tryz.ntmps15
        go_wp2_with fail
        rw [HW0.out]
        refine (HA.out W0).mono ?_
        rintro en w1 ⟨rfl, hb⟩
        have HB1 := Lib.hid (HB0.out.step hb)
        clear hb
        have ya0 := HB1.out.a0
        have ya1 := HB1.out.a1
        go_wp2_with fail
        refine (rkept_no v w1).mono ?_
        rintro en w2 ⟨rfl, hb⟩
        have HB2 := Lib.hid (HB1.out.step (drawn_below hb))
        clear hb ya0 ya1
        go_wp2_with fail
        go_ret2
        exact ⟨rfl, HB2.out.below⟩
set_option maxRecDepth 100000 in
set_option maxHeartbeats 1600000 in
theorem rv_lang (b1 b2 b3 : Bool) (A : Option Addr) (n c : Nat) (e v : ByteArray) (w : World) (hv : v.size < 4294967281) (h1 : attrF e.data.toList [108, 97, 110, 103] = true) :
    Calls Tryz.prog 15 #[.agg #[.bool b1, .bool b2, .bool b3], .slice A n c, .string e, .agg #[.string ⟨#[108, 97, 110, 103]⟩, .string v]] w fun en w' => en = .returned (.tuple #[.string ⟨(if (langF v.data.toList).2 = true then (langF v.data.toList).1 else []).toArray⟩, .bool (langF v.data.toList).2]) ∧ Below w.heap.size w w' := by
  have HM := Lib.hid (fun w1 => rlang_any v w1 hv)
  unfold langF
  generalize madeF langSet 20 v.data.toList = b at *
  have HA := Lib.hid (fun w1 => rattr_any e (⟨#[108, 97, 110, 103]⟩ : ByteArray) w1)
  rw [show (⟨#[108, 97, 110, 103]⟩ : ByteArray).data.toList = [108, 97, 110, 103] from rfl, h1] at HA
  have HB0 := Lib.hid (Boxed.start w b1 b2 b3 (⟨#[108, 97, 110, 103]⟩ : ByteArray) v)
  obtain ⟨W0, hW0⟩ : ∃ W0, (w.alloc (Obj.cells #[Value.bool b1, Value.bool b2, Value.bool b3] 26)).alloc (Obj.cells #[Value.string (⟨#[108, 97, 110, 103]⟩ : ByteArray), Value.string v] 29) = W0 := ⟨_, rfl⟩
  rw [hW0] at HB0
  have HW0 := Lib.hid hW0
  clear hW0 h1
  cases b with
  | true =>
    go_enter Tryz.func15, Tryz.ntmps15
    go_wp2_with fail
    rw [HW0.out]
    refine (HA.out W0).mono ?_
    rintro en w1 ⟨rfl, hb⟩
    have HB1 := Lib.hid (HB0.out.step hb)
    clear hb
    have ya0 := HB1.out.a0
    have ya1 := HB1.out.a1
    go_wp2_with fail
    go_quiet (first | (go_at_call 35; exact Calls.quiet_of (HM.out _)) | (go_at_call 31; exact Calls.quiet_of (rkept_yes _ _)))
    go_wp2_with fail
    go_ret2
    exact ⟨rfl, (HB1.out.step (drawn_below ⟨_, rfl⟩)).below⟩
  | false =>
    go_enter Tryz.func15, Tryz.ntmps15
    go_wp2_with fail
    rw [HW0.out]
    refine (HA.out W0).mono ?_
    rintro en w1 ⟨rfl, hb⟩
    have HB1 := Lib.hid (HB0.out.step hb)
    clear hb
    have ya0 := HB1.out.a0
    have ya1 := HB1.out.a1
    go_wp2_with fail
    go_quiet (first | (go_at_call 35; exact Calls.quiet_of (HM.out _)) | (go_at_call 31; exact Calls.quiet_of (rkept_no _ _)))
    go_wp2_with fail
    go_ret2
    exact ⟨rfl, (HB1.out.step (drawn_below ⟨_, rfl⟩)).below⟩
set_option maxRecDepth 100000 in
set_option maxHeartbeats 1600000 in
theorem rv_title (b1 b2 b3 : Bool) (A : Option Addr) (n c : Nat) (e v : ByteArray) (w : World) (h1 : attrF e.data.toList [116, 105, 116, 108, 101] = true) :
    Calls Tryz.prog 15 #[.agg #[.bool b1, .bool b2, .bool b3], .slice A n c, .string e, .agg #[.string ⟨#[116, 105, 116, 108, 101]⟩, .string v]] w fun en w' => en = .returned (.tuple #[.string v, .bool true]) ∧ Below w.heap.size w w' := by
  have HA := Lib.hid (fun w1 => rattr_any e (⟨#[116, 105, 116, 108, 101]⟩ : ByteArray) w1)
  rw [show (⟨#[116, 105, 116, 108, 101]⟩ : ByteArray).data.toList = [116, 105, 116, 108, 101] from rfl, h1] at HA
  have HB0 := Lib.hid (Boxed.start w b1 b2 b3 (⟨#[116, 105, 116, 108, 101]⟩ : ByteArray) v)
  obtain ⟨W0, hW0⟩ : ∃ W0, (w.alloc (Obj.cells #[Value.bool b1, Value.bool b2, Value.bool b3] 26)).alloc (Obj.cells #[Value.string (⟨#[116, 105, 116, 108, 101]⟩ : ByteArray), Value.string v] 29) = W0 := ⟨_, rfl⟩
  rw [hW0] at HB0
  have HW0 := Lib.hid hW0
  clear hW0 h1
  go_enter Tryz.func15, Tryz.ntmps15
  go_wp2_with fail
  rw [HW0.out]
  refine (HA.out W0).mono ?_
  rintro en w1 ⟨rfl, hb⟩
  have HB1 := Lib.hid (HB0.out.step hb)
  clear hb
  have ya0 := HB1.out.a0
  have ya1 := HB1.out.a1
  go_wp2_with fail
  go_ret2
  exact ⟨rfl, HB1.out.below⟩
set_option maxRecDepth 100000 in
set_option maxHeartbeats 1600000 in
theorem rv_alt (b1 b2 b3 : Bool) (A : Option Addr) (n c : Nat) (e v : ByteArray) (w : World) (h1 : attrF e.data.toList [97, 108, 116] = true) :
    Calls Tryz.prog 15 #[.agg #[.bool b1, .bool b2, .bool b3], .slice A n c, .string e, .agg #[.string ⟨#[97, 108, 116]⟩, .string v]] w fun en w' => en = .returned (.tuple #[.string v, .bool true]) ∧ Below w.heap.size w w' := by
  have HA := Lib.hid (fun w1 => rattr_any e (⟨#[97, 108, 116]⟩ : ByteArray) w1)
  rw [show (⟨#[97, 108, 116]⟩ : ByteArray).data.toList = [97, 108, 116] from rfl, h1] at HA
  have HB0 := Lib.hid (Boxed.start w b1 b2 b3 (⟨#[97, 108, 116]⟩ : ByteArray) v)
  obtain ⟨W0, hW0⟩ : ∃ W0, (w.alloc (Obj.cells #[Value.bool b1, Value.bool b2, Value.bool b3] 26)).alloc (Obj.cells #[Value.string (⟨#[97, 108, 116]⟩ : ByteArray), Value.string v] 29) = W0 := ⟨_, rfl⟩
  rw [hW0] at HB0
  have HW0 := Lib.hid hW0
  clear hW0 h1
  go_enter Tryz.func15, Tryz.ntmps15
  go_wp2_with fail
  rw [HW0.out]
  refine (HA.out W0).mono ?_
  rintro en w1 ⟨rfl, hb⟩
  have HB1 := Lib.hid (HB0.out.step hb)
  clear hb
  have ya0 := HB1.out.a0
  have ya1 := HB1.out.a1
  go_wp2_with fail
  go_ret2
  exact ⟨rfl, HB1.out.below⟩
set_option maxRecDepth 100000 in
set_option maxHeartbeats 1600000 in
theorem rv_size (b1 b2 b3 : Bool) (A : Option Addr) (n c : Nat) (e nm v : ByteArray) (w : World) (hv : v.size < 4294967281) (hno : ¬ nm.data.toList = [104, 114, 101, 102] ∧ ¬ nm.data.toList = [115, 114, 99] ∧ ¬ nm.data.toList = [115, 116, 121, 108, 101] ∧ ¬ nm.data.toList = [100, 105, 114] ∧ ¬ nm.data.toList = [108, 97, 110, 103] ∧ ¬ nm.data.toList = [116, 105, 116, 108, 101] ∧ ¬ nm.data.toList = [97, 108, 116]) (h1 : attrF e.data.toList nm.data.toList = true) :
    Calls Tryz.prog 15 #[.agg #[.bool b1, .bool b2, .bool b3], .slice A n c, .string e, .agg #[.string nm, .string v]] w fun en w' => en = .returned (.tuple #[.string ⟨(if (sizeF v.data.toList).2 = true then (sizeF v.data.toList).1 else []).toArray⟩, .bool (sizeF v.data.toList).2]) ∧ Below w.heap.size w w' := by
  have HM := Lib.hid (fun w1 => rdigits_any v w1 hv)
  unfold sizeF
  generalize madeF sizeSet 4 v.data.toList = b at *
  obtain ⟨z0, z1, z2, z3, z4, z5, z6⟩ := hno
  have x0 := beq_no z0
  have x1 := beq_no z1
  have x2 := beq_no z2
  have x3 := beq_no z3
  have x4 := beq_no z4
  have x5 := beq_no z5
  have x6 := beq_no z6
  clear z0 z1 z2 z3 z4 z5 z6
  have HA := Lib.hid (fun w1 => rattr_any e nm w1)
  rw [h1] at HA
  have HB0 := Lib.hid (Boxed.start w b1 b2 b3 nm v)
  obtain ⟨W0, hW0⟩ : ∃ W0, (w.alloc (Obj.cells #[Value.bool b1, Value.bool b2, Value.bool b3] 26)).alloc (Obj.cells #[Value.string nm, Value.string v] 29) = W0 := ⟨_, rfl⟩
  rw [hW0] at HB0
  have HW0 := Lib.hid hW0
  clear hW0 h1
  cases b with
  | true =>
    go_enter Tryz.func15, Tryz.ntmps15
    go_wp2_with fail
    rw [HW0.out]
    refine (HA.out W0).mono ?_
    rintro en w1 ⟨rfl, hb⟩
    have HB1 := Lib.hid (HB0.out.step hb)
    clear hb
    have ya0 := HB1.out.a0
    have ya1 := HB1.out.a1
    go_wp2_with fail
    go_quiet (first | (go_at_call 36; exact Calls.quiet_of (HM.out _)) | (go_at_call 31; exact Calls.quiet_of (rkept_yes _ _)))
    go_wp2_with fail
    go_ret2
    exact ⟨rfl, (HB1.out.step (drawn_below ⟨_, rfl⟩)).below⟩
  | false =>
    go_enter Tryz.func15, Tryz.ntmps15
    go_wp2_with fail
    rw [HW0.out]
    refine (HA.out W0).mono ?_
    rintro en w1 ⟨rfl, hb⟩
    have HB1 := Lib.hid (HB0.out.step hb)
    clear hb
    have ya0 := HB1.out.a0
    have ya1 := HB1.out.a1
    go_wp2_with fail
    go_quiet (first | (go_at_call 36; exact Calls.quiet_of (HM.out _)) | (go_at_call 31; exact Calls.quiet_of (rkept_no _ _)))
    go_wp2_with fail
    go_ret2
    exact ⟨rfl, (HB1.out.step (drawn_below ⟨_, rfl⟩)).below⟩
theorem off_pair {p : List UInt8 × Bool} (h : p.2 = false → p.1 = []) : (if p.2 = true then (p.1, true) else (([] : List UInt8), false)) = p := by
  obtain ⟨a, b⟩ := p
  cases b with
  | true => rfl
  | false => rw [show a = [] from h rfl]; rfl
theorem on_pair (p : List UInt8 × Bool) : (if p.2 = true then (p.1, true) else (([] : List UInt8), false)) = ((if p.2 = true then p.1 else []), p.2) := by
  obtain ⟨a, b⟩ := p
  cases b <;> rfl
theorem lit_of {nm : ByteArray} {l : List UInt8} (h : nm.data.toList = l) : nm = ⟨l.toArray⟩ := by
  have e : nm = ⟨nm.data.toList.toArray⟩ := rfl
  rw [e, h]
theorem meth_size (n : List UInt8) (hno : ¬ n = [104, 114, 101, 102] ∧ ¬ n = [115, 114, 99] ∧ ¬ n = [115, 116, 121, 108, 101] ∧ ¬ n = [100, 105, 114] ∧ ¬ n = [108, 97, 110, 103] ∧ ¬ n = [116, 105, 116, 108, 101] ∧ ¬ n = [97, 108, 116]) : methOf n = 29 := by
  unfold methOf
  simp only [methNs, List.foldl_cons, List.foldl_nil, hno, if_false]
/-- The document's Value. -/
theorem rvalue_any (b1 b2 b3 : Bool) (A : Option Addr) (c : Nat) (l : List S39) (e nm v : ByteArray) (w : World) (hv : v.size < 4294967281) (hC : Kd.C k39 w A l.length l) (hc : l.length ≤ c) (hl : l.length < 4294967296) :
    Calls Tryz.prog 15 #[.agg #[.bool b1, .bool b2, .bool b3], .slice A l.length c, .string e, .agg #[.string nm, .string v]] w fun en w' => en = .returned (.tuple #[.string ⟨(valueF b1 b2 l e.data.toList nm.data.toList v.data.toList).1.toArray⟩, .bool (valueF b1 b2 l e.data.toList nm.data.toList v.data.toList).2]) ∧ Below w.heap.size w w' := by
  unfold valueF
  cases h1 : attrF e.data.toList nm.data.toList with
  | false =>
    rw [if_neg (by decide)]
    exact rv_off b1 b2 b3 A l.length c e nm v w h1
  | true =>
    rw [if_pos rfl]
    by_cases z0 : nm.data.toList = [104, 114, 101, 102]
    · obtain rfl := lit_of z0
      have h := rv_href b1 b2 b3 A l.length c e v w hv h1
      rw [← off_pair (hrefF_off v.data.toList)] at h
      exact h
    by_cases z1 : nm.data.toList = [115, 114, 99]
    · obtain rfl := lit_of z1
      have h := rv_src b1 b2 b3 A l.length c e v w l rfl hv hC hc hl h1
      rw [← off_pair (srcF_off b1 l v.data.toList)] at h
      exact h
    rw [on_pair]
    by_cases z2 : nm.data.toList = [115, 116, 121, 108, 101]
    · obtain rfl := lit_of z2
      exact rv_style b1 b2 b3 A l.length c e v w hv h1
    by_cases z3 : nm.data.toList = [100, 105, 114]
    · obtain rfl := lit_of z3
      exact rv_dir b1 b2 b3 A l.length c e v w h1
    by_cases z4 : nm.data.toList = [108, 97, 110, 103]
    · obtain rfl := lit_of z4
      exact rv_lang b1 b2 b3 A l.length c e v w hv h1
    by_cases z5 : nm.data.toList = [116, 105, 116, 108, 101]
    · obtain rfl := lit_of z5
      exact rv_title b1 b2 b3 A l.length c e v w h1
    by_cases z6 : nm.data.toList = [97, 108, 116]
    · obtain rfl := lit_of z6
      exact rv_alt b1 b2 b3 A l.length c e v w h1
    · have hno := And.intro z0 (And.intro z1 (And.intro z2 (And.intro z3 (And.intro z4 (And.intro z5 z6)))))
      rw [meth_size _ hno]
      exact rv_size b1 b2 b3 A l.length c e nm v w hv hno h1
end Go.Proofs.YtchooidhieaphaaGreatDoor
