/- The byte Replacer's Replace leaves the three bytes out. Condition: texts below 2^32 - 15 bytes. -/
/-
  (*byteStringReplacer).Replace over the table of link.Clean: the text without tabs and ends of rows.
-/
import Derived.Test.YtchooidhieaphaaGreatDoorOnce
import Derived.Test.YtchooidhieaphaaGreatDoorShelf
import Derived.Deep.DeepCutAuto
import Derived.Deep.CutBlock
import Derived.Deep.LoopGhost
import Derived.Deep.QuietTactic
import Derived.BigQuiet
set_option linter.unusedVariables false
set_option linter.unusedSimpArgs false
namespace Go.Proofs.YtchooidhieaphaaGreatDoor
open Go.RowKit Go.Proofs.YtchooidhieaphaaGreatDoorW.PrintWords

/-- What link.Clean leaves in. -/
def keepB (c : UInt8) : Bool := !(c == 9 || c == 10 || c == 13)
def cutF (l : List UInt8) : List UInt8 := l.filter keepB
theorem cutF_count (l : List UInt8) : (cutF l).length + l.count 13 + l.count 10 + l.count 9 = l.length := by
  induction l with
  | nil => rfl
  | cons a l ih =>
    unfold cutF at *
    rw [List.filter_cons, List.count_cons, List.count_cons, List.count_cons]
    by_cases h1 : a = 9
    · subst h1; simp [keepB]; omega
    · by_cases h2 : a = 10
      · subst h2; simp [keepB]; omega
      · by_cases h3 : a = 13
        · subst h3; simp [keepB]; omega
        · have : keepB a = true := by simp [keepB, h1, h2, h3]
          simp [this, h1, h2, h3]; omega

/-- What a table's cells hold. -/
theorem Table.cells {w : World} {lo B : Nat} (h : Table w lo B) : (∃ T c, w.cell? ⟨B, 256, none⟩ = some (.slice (some ⟨T, 0, none⟩) 3 c) ∧ w.cell? ⟨T, 0, none⟩ = some (.string ⟨#[13]⟩) ∧ w.cell? ⟨T, 1, none⟩ = some (.string ⟨#[10]⟩) ∧ w.cell? ⟨T, 2, none⟩ = some (.string ⟨#[9]⟩)) ∧
    ∀ i, i < 256 → (i ∈ [9, 10, 13] → ∃ g c, w.cell? ⟨B, i, none⟩ = some (.slice (some ⟨g, 0, none⟩) 0 c)) ∧ (i ∉ [9, 10, 13] → w.cell? ⟨B, i, none⟩ = some (.slice none 0 0)) := by
  obtain ⟨cs, v, h1, h2, h3, h4, h5, h7⟩ := h
  refine ⟨?_, fun i hi => ⟨fun hm => ?_, fun hm => (blk_cell h1 i).trans ((h3 i hi).2 hm)⟩⟩
  · rcases h5.2 with h | ⟨g, cap, cur, hv, hg, hcur, hcap, _, hsz, htk⟩
    · exact absurd h.2 (by decide)
    · have hj : ∀ j, j < 3 → w.cell? ⟨g, j, none⟩ = ([.string ⟨#[13]⟩, .string ⟨#[10]⟩, .string ⟨#[9]⟩] : List Value)[j]? := fun j hj => by
        rw [blk_cell hcur j, ← htk, List.getElem?_take_of_lt (by omega)]
        simp
      exact ⟨g, cap, (blk_cell h1 256).trans (by rw [h4, hv]), hj 0 (by decide), hj 1 (by decide), hj 2 (by decide)⟩
  · obtain ⟨g, c, hg⟩ := (h3 i hi).1 hm
    exact ⟨g, c, (blk_cell h1 i).trans hg⟩
theorem Table.below {w w1 : World} {lo B : Nat} (h : Table w lo B) (hb : Below w.heap.size w w1) : Table w1 lo B := by
  obtain ⟨cs, v, h1, h2, h3, h4, h5, h7⟩ := h
  exact ⟨cs, v, blk_below h1 hb, h2, h3, h4, h5.kept (grown_of_below hb none) (Classical.em _), h7⟩

theorem take_snoc (s : ByteArray) (k : Nat) (h : k < s.size) : s.data.toList.take (k + 1) = s.data.toList.take k ++ [s[k]] := by
  rw [List.take_succ_eq_append_getElem (by simpa using h)]; rfl
theorem cutF_snoc (l : List UInt8) (x : UInt8) : (cutF (l ++ [x])).length = if keepB x = true then (cutF l).length + 1 else (cutF l).length := by
  unfold cutF
  rw [List.filter_append]
  by_cases h : keepB x = true <;> simp [h]
theorem toNat_inj {x y : UInt8} (h : x.toNat = y.toNat) : x = y := UInt8.toNat_inj.1 h
theorem keepB_not {x : UInt8} (h : keepB x = true) : x.toNat ∉ [9, 10, 13] := by
  intro hm
  simp only [List.mem_cons, List.not_mem_nil, or_false] at hm
  rcases hm with e | e | e
  · obtain rfl : x = 9 := toNat_inj e
    simp [keepB] at h
  · obtain rfl : x = 10 := toNat_inj e
    simp [keepB] at h
  · obtain rfl : x = 13 := toNat_inj e
    simp [keepB] at h
theorem keepB_mem {x : UInt8} (h : ¬ keepB x = true) : x.toNat ∈ [9, 10, 13] := by
  have h' : keepB x = false := by simpa using h
  unfold keepB at h'
  simp only [Bool.not_eq_false', Bool.or_eq_true, beq_iff_eq] at h'
  rcases h' with (rfl | rfl) | rfl <;> decide

/-- The bytes that have been laid, then zeros. -/
def rowF (l : List UInt8) (k r : Nat) : List Value := nums .u8 ((cutF (l.take k)).map fun c => (c.toNat : Int)) ++ List.replicate (r - (cutF (l.take k)).length) (.int .u8 0)
theorem made_zero (r : Nat) : (madeCells #[Value.int .u8 0] r).toList = List.replicate r (.int .u8 0) := by
  unfold madeCells
  apply List.ext_getElem
  · simp
  · intro i h1 h2
    simp [Nat.mod_one]
theorem rowF_zero (l : List UInt8) (r : Nat) (_ : (cutF l).length = r) : rowF l 0 r = List.replicate r (.int .u8 0) := by simp [rowF, cutF, nums]
theorem rowF_skip (l : List UInt8) (k r : Nat) (x : UInt8) (hs : l.take (k + 1) = l.take k ++ [x]) (hx : ¬ keepB x = true) : rowF l (k + 1) r = rowF l k r := by
  have : cutF (l.take (k + 1)) = cutF (l.take k) := by rw [hs]; unfold cutF; rw [List.filter_append]; simp [hx]
  unfold rowF
  rw [this]
theorem rowF_keep (l : List UInt8) (k r : Nat) (x : UInt8) (hs : l.take (k + 1) = l.take k ++ [x]) (hx : keepB x = true) (q : Nat) (hq : (cutF (l.take k)).length = q) (hqr : q + 1 ≤ r) :
    (rowF l k r).set q (.int .u8 (x.toNat : Int)) = rowF l (k + 1) r := by
  have h1 : cutF (l.take (k + 1)) = cutF (l.take k) ++ [x] := by rw [hs]; unfold cutF; rw [List.filter_append]; simp [hx]
  have h2 : (nums .u8 ((cutF (l.take k)).map fun c => (c.toNat : Int))).length = q := by simp [nums, hq]
  unfold rowF
  rw [h1, hq, List.set_append_right _ _ (by omega), h2, Nat.sub_self]
  obtain ⟨d, hd⟩ : ∃ d, r - q = d + 1 := ⟨r - q - 1, by omega⟩
  have hd2 : r - (cutF (l.take k) ++ [x]).length = d := by rw [List.length_append, hq]; simp; omega
  rw [hd, hd2, List.replicate_succ]
  simp [nums]
theorem rowF_at (l : List UInt8) (k r q : Nat) (hq : (cutF (l.take k)).length = q) (hqr : q + 1 ≤ r) : (rowF l k r)[q]? = some (.int .u8 0) := by
  unfold rowF
  rw [List.getElem?_append_right (by simp [nums, hq]), hq]
  simp only [nums, List.length_map, hq, Nat.sub_self]
  rw [List.getElem?_replicate, if_pos (by omega)]
theorem rowF_end (s : ByteArray) {w w' : World} {r g : Nat} (h : w'.ownsRow w.heap.size 5 1 (.slice (some ⟨g, 0, none⟩) r r) r (rowF s.data.toList s.size r)) (hr : (cutF s.data.toList).length = r) :
    w'.ownsRow w.heap.size 5 1 (.slice (some ⟨g, 0, none⟩) r r) r (nums .u8 ((cutF s.data.toList).map fun c => (c.toNat : Int))) := by
  unfold rowF at h
  rw [List.take_of_length_le (by rw [← Lib.size_eq]; exact Nat.le_refl _), hr, Nat.sub_self] at h
  simpa using h
theorem strOfNums_bytes (l : List UInt8) : strOfNums (l.map fun c => (c.toNat : Int)) = ⟨l.toArray⟩ := by
  unfold strOfNums
  rw [List.map_map]
  congr 2
  apply List.ext_getElem
  · simp
  · intro i h1 h2
    simp
theorem info5 : (Tryz.prog.info? 5).map (fun i => (i.zero, i.size, i.bytes)) = some (some (.int .u8 0), 1, 1) := by kernel_rfl

set_option maxRecDepth 100000 in
set_option maxHeartbeats 1600000 in
theorem replace_any (lo B : Nat) (s : ByteArray) (w : World) (hT : Table w lo B) (hs : s.size < 4294967281) :
    Calls Tryz.prog 202 #[.pointer (some ⟨B, 0, none⟩), .string s] w fun e w' => e = .returned (.string ⟨(cutF s.data.toList).toArray⟩) ∧ Below w.heap.size w w' := by
  have HT := Lib.hid hT
  obtain ⟨⟨T, c, hc, t0, t1, t2⟩, hi⟩ := hT.cells
  have HI := Lib.hid hi
  clear hi hT
  have e := cutF_count s.data.toList
  have hsz := Lib.size_eq s
  obtain ⟨a13, h13⟩ : ∃ n, s.data.toList.count 13 = n := ⟨_, rfl⟩
  obtain ⟨a10, h10⟩ : ∃ n, s.data.toList.count 10 = n := ⟨_, rfl⟩
  obtain ⟨a9, h9⟩ : ∃ n, s.data.toList.count 9 = n := ⟨_, rfl⟩
  obtain ⟨r, hr⟩ : ∃ n, (cutF s.data.toList).length = n := ⟨_, rfl⟩
  rw [h13, h10, h9, hr, ← hsz] at e
  have hc13 := Lib.hid (fun W : World => (Tryz.strings_Count_one s 13 W).mono fun _ _ h => (⟨h.1.trans (by rw [show Lib.countByte s.data.toList 13 = a13 from h13]), h.2.symm⟩ : _ = Ending.returned (.int .i64 (a13 : Int)) ∧ W = _))
  have hc10 := Lib.hid (fun W : World => (Tryz.strings_Count_one s 10 W).mono fun _ _ h => (⟨h.1.trans (by rw [show Lib.countByte s.data.toList 10 = a10 from h10]), h.2.symm⟩ : _ = Ending.returned (.int .i64 (a10 : Int)) ∧ W = _))
  have hc9 := Lib.hid (fun W : World => (Tryz.strings_Count_one s 9 W).mono fun _ _ h => (⟨h.1.trans (by rw [show Lib.countByte s.data.toList 9 = a9 from h9]), h.2.symm⟩ : _ = Ending.returned (.int .i64 (a9 : Int)) ∧ W = _))
  have HR := Lib.hid hr
  clear h13 h10 h9 hr hsz
  have HE := Lib.hid e
  have e1 : a13 ≤ s.size := by omega
  have e2 : a10 ≤ s.size := by omega
  have e3 : a9 ≤ s.size := by omega
  have e4 : a13 + a10 + a9 ≤ s.size := by omega
  clear e
  go_enter Tryz.func202, Tryz.ntmps202
  go_upto_if 26 with (fail)
  go_cut [5, 6] (fun n a wc => n = .int .i64 (r : Int) ∧ a = .bool (decide (r < s.size)) ∧ Below w.heap.size w wc)
  case first =>
    by_cases hlen : 24 ≤ s.size
    · have hd : decide (24 ≤ (s.size : Int)) = true := by simp; omega
      rw [hd]
      go_wp2
      go_loopw [5, 6, 32] (fun n a i wr => Below w.heap.size w wr ∧ ((i = .int .i64 0 ∧ n = .int .i64 (s.size : Int) ∧ a = .bool false) ∨ (i = .int .i64 1 ∧ n = .int .i64 ((s.size : Int) - a13) ∧ a = .bool (decide (0 < a13))) ∨
        (i = .int .i64 2 ∧ n = .int .i64 ((s.size : Int) - a13 - a10) ∧ a = .bool (decide (0 < a13 + a10))) ∨ (i = .int .i64 3 ∧ n = .int .i64 ((s.size : Int) - a13 - a10 - a9) ∧ a = .bool (decide (0 < a13 + a10 + a9))))) (fun _ _ i _ => 4 - (intOf i).toNat)
      case atStart => exact ⟨Below.refl _ _, .inl ⟨rfl, rfl, rfl⟩⟩
      case round =>
        obtain ⟨hb, ⟨rfl, rfl, rfl⟩ | ⟨rfl, rfl, rfl⟩ | ⟨rfl, rfl, rfl⟩ | ⟨rfl, rfl, rfl⟩⟩ := hrel
        · obtain ⟨g, cg, hg⟩ := (HI.out 13 (by decide)).1 (by decide)
          have k0 := cell_later hb t0
          have k1 := cell_later hb hg
          have hx : ∀ h : 0 < (⟨#[13]⟩ : ByteArray).size, ((⟨#[13]⟩ : ByteArray)[0]'h).toNat = 13 := fun _ => rfl
          have HB := Lib.hid hb
          clear hb t0 t1 t2 hg hc
          by_cases hz : a13 = 0
          · subst hz
            go_wp2_with (go_at_call 204; refine (hc13.out _).mono ?_; rintro e w' ⟨rfl, rfl⟩)
            go_roundw
            case rel => exact ⟨HB.out, .inr (.inl ⟨rfl, by go_num, rfl⟩)⟩
            case measure => simp [intOf]
          · have hz1 : ((a13 : Int) != 0) = true := by simp; omega
            have hz2 : decide (0 < a13) = true := by simp; omega
            go_wp2_with (go_at_call 204; refine (hc13.out _).mono ?_; rintro e w' ⟨rfl, rfl⟩)
            go_quiet (fail)
            go_wp2
            go_roundw
            case rel => exact ⟨below_drewN' HB.out _, .inr (.inl ⟨rfl, by go_num, by rw [hz2]⟩)⟩
            case measure => simp [intOf]
        · obtain ⟨g, cg, hg⟩ := (HI.out 10 (by decide)).1 (by decide)
          have k0 := cell_later hb t1
          have k1 := cell_later hb hg
          have hx : ∀ h : 0 < (⟨#[10]⟩ : ByteArray).size, ((⟨#[10]⟩ : ByteArray)[0]'h).toNat = 10 := fun _ => rfl
          have HB := Lib.hid hb
          clear hb t0 t1 t2 hg hc
          by_cases hz : a10 = 0
          · subst hz
            go_wp2_with (go_at_call 204; refine (hc10.out _).mono ?_; rintro e w' ⟨rfl, rfl⟩)
            go_roundw
            case rel => exact ⟨HB.out, .inr (.inr (.inl ⟨rfl, by go_num, rfl⟩))⟩
            case measure => simp [intOf]
          · have hz1 : ((a10 : Int) != 0) = true := by simp; omega
            have hz2 : decide (0 < a13 + a10) = true := by simp; omega
            go_wp2_with (go_at_call 204; refine (hc10.out _).mono ?_; rintro e w' ⟨rfl, rfl⟩)
            go_quiet (fail)
            go_wp2
            go_roundw
            case rel => exact ⟨below_drewN' HB.out _, .inr (.inr (.inl ⟨rfl, by go_num, by rw [hz2]⟩))⟩
            case measure => simp [intOf]
        · obtain ⟨g, cg, hg⟩ := (HI.out 9 (by decide)).1 (by decide)
          have k0 := cell_later hb t2
          have k1 := cell_later hb hg
          have hx : ∀ h : 0 < (⟨#[9]⟩ : ByteArray).size, ((⟨#[9]⟩ : ByteArray)[0]'h).toNat = 9 := fun _ => rfl
          have HB := Lib.hid hb
          clear hb t0 t1 t2 hg hc
          by_cases hz : a9 = 0
          · subst hz
            go_wp2_with (go_at_call 204; refine (hc9.out _).mono ?_; rintro e w' ⟨rfl, rfl⟩)
            go_roundw
            case rel => exact ⟨HB.out, .inr (.inr (.inr ⟨rfl, by go_num, rfl⟩))⟩
            case measure => simp [intOf]
          · have hz1 : ((a9 : Int) != 0) = true := by simp; omega
            have hz2 : decide (0 < a13 + a10 + a9) = true := by simp; omega
            go_wp2_with (go_at_call 204; refine (hc9.out _).mono ?_; rintro e w' ⟨rfl, rfl⟩)
            go_quiet (fail)
            go_wp2
            go_roundw
            case rel => exact ⟨below_drewN' HB.out _, .inr (.inr (.inr ⟨rfl, by go_num, by rw [hz2]⟩))⟩
            case measure => simp [intOf]
        · have HB := Lib.hid hb
          clear hb t0 t1 t2 hc
          have hq : decide (0 < a13 + a10 + a9) = decide (r < s.size) := by
            have := HE.out
            rw [decide_eq_decide]
            omega
          have hq2 : (s.size : Int) - a13 - a10 - a9 = r := by have := HE.out; omega
          have HQ := Lib.hid hq
          have HQ2 := Lib.hid hq2
          clear hq hq2
          go_wp2
          go_meet
          case rel => exact ⟨by rw [HQ2.out], by rw [HQ.out], HB.out⟩
    · have hd : decide (24 ≤ (s.size : Int)) = false := by simp; omega
      rw [hd]
      clear hc t0 t1 t2 e1 e2 e3 e4
      have HD1 := Lib.hid hlen
      clear hlen
      go_wp2
      go_loopw [5, 6, 10] (fun n a i wr => Below w.heap.size w wr ∧ ∃ k : Nat, k ≤ s.size ∧ i = .int .i64 (k : Int) ∧ n = .int .i64 ((s.size : Int) - k + ((cutF (s.data.toList.take k)).length : Int)) ∧ a = .bool (decide ((cutF (s.data.toList.take k)).length < k))) (fun _ _ i _ => s.size - (intOf i).toNat)
      case atStart => exact ⟨Below.refl _ _, 0, Nat.zero_le _, rfl, by simp [cutF], by simp [cutF]⟩
      case round =>
        obtain ⟨hb, k, hk, rfl, rfl, rfl⟩ := hrel
        have HB := Lib.hid hb
        clear hb
        have hcl : (cutF (s.data.toList.take k)).length ≤ k := Nat.le_trans (List.length_filter_le _ _) (List.length_take_le _ _)
        obtain ⟨q, hq⟩ : ∃ q, (cutF (s.data.toList.take k)).length = q := ⟨_, rfl⟩
        rw [hq] at hcl ⊢
        have HQ := Lib.hid hq
        clear hq
        by_cases hlt : k < s.size
        · obtain ⟨x, hx⟩ : ∃ x : UInt8, s[k]'hlt = x := ⟨_, rfl⟩
          have hx256 : x.toNat < 256 := x.toNat_lt
          have hsn := take_snoc s k hlt
          rw [hx] at hsn
          by_cases hkp : keepB x = true
          · have hnil := cell_later HB.out ((HI.out x.toNat hx256).2 (keepB_not hkp))
            have HS := Lib.hid (show (cutF (s.data.toList.take (k + 1))).length = q + 1 by rw [hsn, cutF_snoc, if_pos hkp, HQ.out])
            clear hsn hkp
            go_wp2
            go_roundw
            case rel => exact ⟨HB.out, k + 1, by omega, by go_num, by rw [HS.out]; go_num, by rw [HS.out]; simp⟩
            case measure => simp [intOf]; omega
          · obtain ⟨g, cg, hg⟩ := (HI.out x.toNat hx256).1 (keepB_mem hkp)
            have hnil := cell_later HB.out hg
            have HS := Lib.hid (show (cutF (s.data.toList.take (k + 1))).length = q by rw [hsn, cutF_snoc, if_neg hkp, HQ.out])
            clear hsn hkp hg
            go_wp2
            go_roundw
            case rel => exact ⟨HB.out, k + 1, by omega, by go_num, by rw [HS.out]; go_num, by rw [HS.out]; simp; omega⟩
            case measure => simp [intOf]; omega
        · obtain rfl : k = s.size := by omega
          have hq3 : q = r := by
            have := HQ.out
            rw [List.take_of_length_le (by rw [← Lib.size_eq]; exact Nat.le_refl _), HR.out] at this
            exact this.symm
          subst hq3
          have hn : (s.size : Int) - (s.size : Int) + (q : Int) = (q : Int) := by omega
          have HN := Lib.hid hn
          clear hn
          go_wp2
          go_meet
          case rel => exact ⟨by go_num, rfl, HB.out⟩
  case rest =>
    obtain ⟨rfl, rfl, hb⟩ := hcut
    have HB := Lib.hid hb
    clear hb hc t0 t1 t2 e1 e2 e3 e4 hc13 hc10 hc9
    by_cases hlt : r < s.size
    · have hd : decide (r < s.size) = true := decide_eq_true hlt
      rw [hd]
      have HL := Lib.hid hlt
      clear hlt
      obtain ⟨i5, hi0, hz0, hz1, hz2⟩ := info_parts info5
      have hr1 : r < 4294967281 := by have := HL.out; omega
      go_wp2_with (at_make; go_loud (refine wpList_make_full _ rfl _ _ 50 rfl w.heap.size 5 i5 (.int .u8 0) 1 Tryz.underlying50 hi0 hz0 hz1 .i64 .i64 _ _ r rfl rfl rfl rfl ?c1 ?c2 HB.out.size ?_))
      case c1 => rw [hz2]; omega
      case c2 => unfold maxLen; omega
      intro w1 hown hgr
      have hb1 : Below w.heap.size w w1 := HB.out.grown hgr HB.out.size (by intro k hk; cases hk)
      rw [made_zero, ← rowF_zero s.data.toList r HR.out] at hown
      have HO1 := Lib.hid hown
      have HB1 := Lib.hid hb1
      clear hown hb1 hgr
      go_wp2
      go_loopw [13, 14] (fun j i wr => Below w.heap.size w wr ∧ ∃ k : Nat, k ≤ s.size ∧ i = .int .i64 (k : Int) ∧ j = .int .i64 ((cutF (s.data.toList.take k)).length : Int) ∧ Hid (wr.ownsRow w.heap.size 5 1 (.slice (some ⟨wc.heap.size, 0, none⟩) r r) r (rowF s.data.toList k r))) (fun _ i _ => s.size - (intOf i).toNat)
      case atStart => exact ⟨HB1.out, 0, Nat.zero_le _, rfl, by simp [cutF], HO1⟩
      case round =>
        obtain ⟨hb, k, hk, rfl, rfl, hO⟩ := hrel
        have HB2 := Lib.hid hb
        clear hb
        have hqr : (cutF (s.data.toList.take k)).length ≤ r := by rw [← HR.out]; exact ((List.take_sublist k _).filter _).length_le
        obtain ⟨q, hq⟩ : ∃ q, (cutF (s.data.toList.take k)).length = q := ⟨_, rfl⟩
        rw [hq] at hqr ⊢
        have HQ := Lib.hid hq
        clear hq
        by_cases hlt : k < s.size
        · obtain ⟨x, hx⟩ : ∃ x : UInt8, s[k]'hlt = x := ⟨_, rfl⟩
          have hx256 : x.toNat < 256 := x.toNat_lt
          have hsn := take_snoc s k hlt
          rw [hx] at hsn
          by_cases hkp : keepB x = true
          · have hnil := cell_later HB2.out ((HI.out x.toNat hx256).2 (keepB_not hkp))
            have hq1 : (cutF (s.data.toList.take (k + 1))).length = q + 1 := by rw [hsn, cutF_snoc, if_pos hkp, HQ.out]
            have hqr1 : q + 1 ≤ r := by rw [← hq1, ← HR.out]; exact ((List.take_sublist (k + 1) _).filter _).length_le
            have hrow := rowF_keep s.data.toList k r x hsn hkp q HQ.out hqr1
            have hcell : wr.cell? ⟨wc.heap.size, q, none⟩ = some (.int .u8 0) := (hO.out.cellAt q (by omega)).trans (rowF_at _ _ _ _ HQ.out hqr1)
            have hfr : wr.frozen? ⟨wc.heap.size, q, none⟩ = false := hO.out.frozenAt q
            have hst := (hO.out.stored q (.int .u8 (x.toNat : Int))).1
            rw [hrow] at hst
            have HS := Lib.hid hst
            have HN := Lib.hid hq1
            clear hsn hkp hrow hst hq1
            go_wp2
            go_roundw
            case rel => exact ⟨HB2.out.setCell (p := ⟨wc.heap.size, q, none⟩) HB.out.size _, k + 1, by omega, by go_num, by rw [HN.out]; go_num, HS⟩
            case measure => simp [intOf]; omega
          · obtain ⟨g, cg, hg⟩ := (HI.out x.toNat hx256).1 (keepB_mem hkp)
            have hnil := cell_later HB2.out hg
            have hq1 : (cutF (s.data.toList.take (k + 1))).length = q := by rw [hsn, cutF_snoc, if_neg hkp, HQ.out]
            have hrow := rowF_skip s.data.toList k r x hsn hkp
            have hO1 := hO.out
            rw [← hrow] at hO1
            have HO2 := Lib.hid hO1
            have HN := Lib.hid hq1
            clear hsn hkp hg hrow hO1 hO hq1
            have hqr2 : (q : Int) ≤ r := by omega
            have hcp := fun (W : World) (d : Option Addr) (n c ty : Nat) => run_copy_none (P := Tryz.prog) W 50 50 ty 5 d (some ⟨g, 0, none⟩) n c 0 cg Tryz.underlying50 (by kernel_rfl) (Nat.zero_min _)
            go_wp2
            go_region
            all_goals
              go_wp2
              go_roundw
              case rel => exact ⟨HB2.out.drew, k + 1, by omega, by go_num, by rw [HN.out], HO2⟩
              case measure => simp [intOf]; omega
        · obtain rfl : k = s.size := by omega
          have hq3 : q = r := by
            have := HQ.out
            rw [List.take_of_length_le (by rw [← Lib.size_eq]; exact Nat.le_refl _), HR.out] at this
            exact this.symm
          subst hq3
          have hcv := own_string (P := Tryz.prog) Tryz.underlying50 Tryz.underlying5 Tryz.underlying9 (rowF_end s hO.out HR.out)
          go_wp2
          go_ret
          exact ⟨by first | (rw [strOfNums_bytes]; done) | rfl | (rw [strOfNums_bytes]; rfl), HB2.out⟩
    · have hd : decide (r < s.size) = false := decide_eq_false hlt
      rw [hd]
      have hfin : cutF s.data.toList = s.data.toList := by
        have h1 := HR.out
        have h2 := HE.out
        have h3 := Lib.size_eq s
        exact List.filter_eq_self.2 (List.length_filter_eq_length_iff.1 (by show (cutF s.data.toList).length = _; omega))
      have HF := Lib.hid hfin
      clear hfin hlt
      go_wp2
      go_ret
      exact ⟨by rw [HF.out]; simp, HB.out⟩
end Go.Proofs.YtchooidhieaphaaGreatDoor
