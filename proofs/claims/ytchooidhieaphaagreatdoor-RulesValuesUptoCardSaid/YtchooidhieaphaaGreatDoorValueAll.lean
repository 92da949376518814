/- rules.made, and rules.Value at every name: what valueF says. Condition: texts below 2^32 - 96 bytes. -/
import Derived.Test.YtchooidhieaphaaGreatDoorCssAll
import Derived.Lib.OthersKept
import Derived.Lib.TrimAscii
import Derived.Lib.TrimU
import Derived.Test.YtchooidhieaphaaGreatDoorJudgeAll
set_option linter.unusedVariables false
set_option linter.unusedSimpArgs false
namespace Go.Proofs.YtchooidhieaphaaGreatDoor
open Go.RowKit Go.Proofs.YtchooidhieaphaaGreatDoorW.PrintWords
theorem dropWhile_at (p : UInt8 → Bool) : ∀ (l : List UInt8) (k : Nat) (b : UInt8), (l.take k).all p = true → l[k]? = some b → p b = false → l.dropWhile p = l.drop k
  | [], k, b, _, h, _ => by simp at h
  | a :: l, 0, b, _, h, hp => by
    injection h with h
    subst h
    rw [List.dropWhile_cons_of_neg (by simp [hp])]
    rfl
  | a :: l, k + 1, b, ha, h, hp => by
    rw [List.take_succ_cons, List.all_cons, Bool.and_eq_true] at ha
    rw [List.dropWhile_cons_of_pos ha.1, dropWhile_at p l k b ha.2 h hp]
    rfl
theorem dropWhile_none (p : UInt8 → Bool) : ∀ (l : List UInt8), l.all p = true → l.dropWhile p = []
  | [], _ => rfl
  | a :: l, ha => by
    rw [List.all_cons, Bool.and_eq_true] at ha
    rw [List.dropWhile_cons_of_pos ha.1, dropWhile_none p l ha.2]
/-- Whether a rune is one of these bytes. -/
def inSet (t : List UInt8) (r : Nat) : Bool := t.any fun c => decide (c.toNat = r)
theorem inSet_byte (t : List UInt8) (b : UInt8) : inSet t b.toNat = decide (b ∈ t) := by
  unfold inSet
  by_cases h : b ∈ t
  · rw [decide_eq_true h]
    exact List.any_eq_true.2 ⟨b, h, by simp⟩
  · rw [decide_eq_false h, List.any_eq_false]
    intro c hc
    simp only [decide_eq_true_eq]
    intro he
    exact h ((UInt8.toNat_inj.1 he) ▸ hc)
theorem inSet_high (t : List UInt8) (ha : ∀ x ∈ t, x.toNat < 128) (r : Nat) (h : 128 ≤ r) : inSet t r = false := by
  unfold inSet
  rw [List.any_eq_false]
  intro c hc
  have := ha c hc
  simp only [decide_eq_true_eq]
  omega
theorem inSet_snoc (t : List UInt8) (q : Nat) (c : UInt8) (r : Nat) (h : t[q]? = some c) : inSet (t.take (q + 1)) r = (inSet (t.take q) r || decide (c.toNat = r)) := by
  obtain ⟨hq, he⟩ := List.getElem?_eq_some_iff.1 h
  unfold inSet
  rw [List.take_succ_eq_append_getElem hq, List.any_append, he]
  simp
theorem int_dec (r c : Nat) : ((r : Int) == (c : Int)) = decide (c = r) := by
  by_cases h : c = r
  · subst h; simp
  · rw [decide_eq_false h]
    exact beq_eq_false_iff_ne.2 (fun he => h (by omega))
/-- What the next rune is, to a set of ASCII bytes. -/
theorem rune_at (s : ByteArray) (t : List UInt8) (ha : ∀ x ∈ t, x.toNat < 128) (pos : Nat) (h : pos < s.size) :
    ∃ r wd, Utf8.decode s pos = (r, wd) ∧ r ≤ 2147483647 ∧ inSet t r = decide (s[pos]'h ∈ t) ∧ (s[pos]'h ∈ t → wd = 1) ∧ 1 ≤ wd := by
  have hle := decode_le s pos
  by_cases hb : (s[pos]'h).toNat < 128
  · have hd := decode_ascii s pos h hb
    exact ⟨_, _, hd, by omega, inSet_byte t _, fun _ => rfl, Nat.le_refl _⟩
  · have hd := decode_high s pos h (by omega)
    obtain ⟨d, he⟩ : ∃ d, Utf8.decode s pos = d := ⟨_, rfl⟩
    rw [he] at hd hle ⊢
    obtain ⟨r, wd⟩ := d
    refine ⟨r, wd, rfl, hle, ?_, fun hm => absurd (ha _ hm) hb, hd.2⟩
    rw [inSet_high t ha r hd.1, decide_eq_false (fun hm => hb (ha _ hm))]
set_option maxRecDepth 100000 in
set_option maxHeartbeats 3200000 in
theorem cutLeft_any (s t : ByteArray) (w : World) (hs : s.size < 4294967281) (ht : t.size < 4294967281) (hasc : ∀ x ∈ t.data.toList, x.toNat < 128) :
    Calls Tryz.prog 75 #[.string s, .string t] w fun e w' => e = .returned (.string ⟨(s.data.toList.dropWhile (fun x => decide (x ∈ t.data.toList))).toArray⟩) ∧ Below w.heap.size w w' := by
  have HA := Lib.hid hasc
  clear hasc
  have hss := Lib.size_eq s
  have hts := Lib.size_eq t
  have HSS := Lib.hid hss
  have HTS := Lib.hid hts
  clear hss hts
  go_enter Tryz.func75, Tryz.ntmps75
  go_wp2_with fail
  go_loopw [] (fun wr => ∃ pos : Nat, wr.heap[w.heap.size]? = some (.stringIter s pos) ∧ Below w.heap.size w wr ∧ pos ≤ s.size ∧ Hid ((s.data.toList.take pos).all (fun x => decide (x ∈ t.data.toList)) = true)) (fun wr => s.size - wr.iterPos w.heap.size)
  case atStart => exact ⟨0, World.iter_heap w s 0, (Below.refl _ w).alloc (Nat.le_refl _) _, Nat.zero_le _, rfl⟩
  case round =>
    obtain ⟨pos, hit, hB, hps, hAll⟩ := hrel
    have HB := Lib.hid hB
    have hK0 : w.heap.size < wr.heap.size := (Array.getElem?_eq_some_iff.1 hit).1
    by_cases hp : pos < s.size
    · obtain ⟨r, wd, hd, hr, hin, hw1, hw0⟩ := rune_at s t.data.toList HA.out pos hp
      have hnx : ∀ ty, (Instr.next (.pointer (some ⟨w.heap.size, 0, none⟩)) true ty).run Tryz.prog wr = .ok (.tuple #[.bool true, .int .i64 pos, .int .i32 r]) (wr.iterAt w.heap.size s (pos + wd)) := fun ty => by
        rw [Lib.run_next_any_at wr w.heap.size s pos ty hit hp, hd]
      have HI2 := Lib.hid (Lib.iterAt_heap wr w.heap.size s pos (pos + wd) hit)
      have HB2 := Lib.hid (Lib.below_iterAt hB (Nat.le_refl w.heap.size) s (pos + wd))
      have HIn := Lib.hid hin
      have HW1 := Lib.hid hw1
      have HIt := Lib.hid hit
      obtain ⟨b, hb⟩ : ∃ b, s[pos]'hp = b := ⟨_, rfl⟩
      rw [hb] at HIn HW1
      have hbl : s.data.toList[pos]? = some b := by rw [← hb]; exact Lib.data_getElem? s pos hp
      have HBL := Lib.hid hbl
      have hsz := Lib.iterAt_size wr w.heap.size s (pos + wd)
      clear hd hin hw1 hB hit hb hbl
      obtain ⟨w1, hw1⟩ : ∃ w1, wr.iterAt w.heap.size s (pos + wd) = w1 := ⟨_, rfl⟩
      rw [hw1] at hnx HI2 HB2 hsz
      obtain ⟨K1, hK1⟩ : ∃ K1, wr.heap.size = K1 := ⟨_, rfl⟩
      rw [hK1] at hsz hK0
      clear hK1 hw1
      go_wp2_with fail
      have HT0 := Lib.hid (show (w1.iter t 0).heap[K1]? = some (.stringIter t 0) from hsz ▸ World.iter_heap w1 t 0)
      have HS0 := Lib.hid (show (w1.iter t 0).heap[w.heap.size]? = some (.stringIter s (pos + wd)) from (Below.heap_alloc w1 (.stringIter t 0) w.heap.size (by omega)).trans HI2.out)
      have HBi := Lib.hid (show Below w.heap.size w (w1.iter t 0) from HB2.out.alloc HB2.out.size (.stringIter t 0))
      go_loopw [7] (fun f wi => Below w.heap.size w wi ∧ ∃ q : Nat, wi.heap[K1]? = some (.stringIter t q) ∧ wi.heap[w.heap.size]? = some (.stringIter s (pos + wd)) ∧ q ≤ t.size ∧ f = .bool (inSet (t.data.toList.take q) r)) (fun _ wi => t.size - wi.iterPos K1)
      case atStart => exact ⟨HBi.out, 0, HT0.out, HS0.out, Nat.zero_le _, rfl⟩
      case round =>
        obtain ⟨hBi, q, hiq, his, hqs, rfl⟩ := hrel
        have HBj := Lib.hid hBi
        clear hnx
        by_cases hq : q < t.size
        · obtain ⟨c, hc⟩ : ∃ c, t[q]'hq = c := ⟨_, rfl⟩
          have hcl : t.data.toList[q]? = some c := by rw [← hc]; exact Lib.data_getElem? t q hq
          have hca : c.toNat < 128 := HA.out c (List.mem_of_getElem? hcl)
          have hnx : ∀ ty, (Instr.next (.pointer (some ⟨K1, 0, none⟩)) true ty).run Tryz.prog wr = .ok (.tuple #[.bool true, .int .i64 q, .int .i32 c.toNat]) (wr.iterAt K1 t (q + 1)) := fun ty => by
            rw [Lib.run_next_ascii_at wr K1 t q ty hiq hq (by rw [hc]; exact hca), hc]
          have HQ2 := Lib.hid (Lib.iterAt_heap wr K1 t q (q + 1) hiq)
          have HS2 := Lib.hid (show (wr.iterAt K1 t (q + 1)).heap[w.heap.size]? = some (.stringIter s (pos + wd)) from (Lib.iterAt_other wr K1 w.heap.size t (q + 1) (by omega)).trans his)
          have HB3 := Lib.hid (Lib.below_iterAt hBi (show w.heap.size ≤ K1 by omega) t (q + 1))
          have HQ := Lib.hid hiq
          have HN := Lib.hid (inSet_snoc t.data.toList q c r hcl)
          obtain ⟨f, hf⟩ : ∃ f, inSet (t.data.toList.take q) r = f := ⟨_, rfl⟩
          rw [hf] at HN ⊢
          clear hBi his hcl hc hf hiq
          cases f with
          | true =>
            go_wp2_with fail
            go_roundw
            case rel => exact ⟨HB3.out, q + 1, HQ2.out, HS2.out, by omega, by rw [HN.out]; rfl⟩
            case measure =>
              have h1 := HQ2.out
              have h2 := HQ.out
              simp only [World.iterPos, h1, h2]
              omega
          | false =>
            go_wp2_with fail
            all_goals
              go_roundw
              case rel => exact ⟨HB3.out, q + 1, HQ2.out, HS2.out, by omega, by rw [HN.out, Bool.false_or]; first | rfl | rw [int_dec]⟩
              case measure =>
                have h1 := HQ2.out
                have h2 := HQ.out
                simp only [World.iterPos, h1, h2]
                omega
        · have hnx : ∀ ty, (Instr.next (.pointer (some ⟨K1, 0, none⟩)) true ty).run Tryz.prog wr = .ok (.tuple #[.bool false]) wr := fun ty => Lib.run_next_end_at wr K1 t q ty hiq hq
          have hf : inSet (t.data.toList.take q) r = decide (b ∈ t.data.toList) := by
            rw [List.take_of_length_le (by rw [← HTS.out]; omega)]
            exact HIn.out
          rw [hf]
          have HSi := Lib.hid his
          clear hBi hiq his hf
          by_cases hbt : b ∈ t.data.toList
          · rw [decide_eq_true hbt]
            have hwd := HW1.out hbt
            subst hwd
            have HAl := Lib.hid (show (s.data.toList.take (pos + 1)).all (fun x => decide (x ∈ t.data.toList)) = true from all_snoc hAll.out HBL.out (decide_eq_true hbt))
            clear hbt
            go_wp2_with fail
            go_roundw
            case rel => exact ⟨pos + 1, HSi.out, HBj.out, by omega, HAl⟩
            case measure =>
              have h1 := HSi.out
              have h2 := HIt.out
              simp only [World.iterPos, h1, h2]
              omega
          · rw [decide_eq_false hbt]
            have hdw := dropWhile_at (fun x => decide (x ∈ t.data.toList)) s.data.toList pos b hAll.out HBL.out (decide_eq_false hbt)
            rw [← extract_drop' s pos] at hdw
            have HDW := Lib.hid hdw
            clear hbt hdw
            go_wp2_with fail
            go_ret
            exact ⟨ret_str HDW.out.symm, HBj.out⟩
    · have hnx : ∀ ty, (Instr.next (.pointer (some ⟨w.heap.size, 0, none⟩)) true ty).run Tryz.prog wr = .ok (.tuple #[.bool false]) wr := fun ty => Lib.run_next_end_at wr w.heap.size s pos ty hit hp
      have hdw := dropWhile_none (fun x => decide (x ∈ t.data.toList)) s.data.toList (by
        have := hAll.out
        rwa [List.take_of_length_le (by rw [← HSS.out]; omega)] at this)
      have HDW := Lib.hid hdw
      clear hit hdw hB
      go_wp2_with fail
      go_ret
      exact ⟨ret_str HDW.out.symm, HB.out⟩
end Go.Proofs.YtchooidhieaphaaGreatDoor
set_option linter.unusedVariables false
set_option linter.unusedSimpArgs false
namespace Go.Proofs.YtchooidhieaphaaGreatDoor
open Go.RowKit Go.Proofs.YtchooidhieaphaaGreatDoorW.PrintWords
theorem lastStart_lt2 (l : List UInt8) (h : l ≠ []) : Lib.lastStart l < l.length := by
  have h0 := List.length_pos_iff.2 h
  unfold Lib.lastStart
  dsimp only
  repeat' split
  all_goals omega
theorem last_high (l : List UInt8) (b : UInt8) (h : 128 ≤ b.toNat) : 128 ≤ (Lib.decodeLastL (l ++ [b])).1 := by
  have hg : (l ++ [b]).getD ((l ++ [b]).length - 1) 0 = b := by simp [List.getD]
  have hst := lastStart_lt2 (l ++ [b]) (by simp)
  unfold Lib.decodeLastL
  rw [if_neg (by simp), hg, if_neg (by omega)]
  dsimp only
  split
  · rename_i hw
    obtain ⟨st, hs⟩ : ∃ st, Lib.lastStart (l ++ [b]) = st := ⟨_, rfl⟩
    rw [hs] at hst hw ⊢
    rw [List.drop_eq_getElem_cons hst] at hw ⊢
    obtain ⟨c, hc⟩ : ∃ c, (l ++ [b])[st]'hst = c := ⟨_, rfl⟩
    rw [hc] at hw ⊢
    by_cases hca : c.toNat < 128
    · rw [Lib.decodeL_ascii c _ hca] at hw
      have : (l ++ [b])[st]'hst = b := by
        have e : st = l.length := by
          simp only [List.length_append, List.length_cons, List.length_nil] at hw
          omega
        subst e
        simp
      rw [hc] at this
      subst this
      omega
    · have := decode_high ⟨(c :: (l ++ [b]).drop (st + 1)).toArray⟩ 0 (by rw [size_mk]; simp) (by show 128 ≤ c.toNat; omega)
      exact this.1
  · decide
/-- What the last rune is, to a set of ASCII bytes. -/
theorem last_at (l t : List UInt8) (b : UInt8) (ha : ∀ x ∈ t, x.toNat < 128) :
    ∃ r wd, Lib.decodeLastL (l ++ [b]) = (r, wd) ∧ r ≤ 2147483647 ∧ inSet t r = decide (b ∈ t) ∧ (b ∈ t → wd = 1) ∧ 1 ≤ wd ∧ wd ≤ l.length + 1 := by
  have hw := Lib.decodeLastL_width (l ++ [b]) (by simp)
  have hlen : (l ++ [b]).length = l.length + 1 := by simp
  rw [hlen] at hw
  by_cases hb : b.toNat < 128
  · have hd := Lib.decodeLastL_ascii l b hb
    exact ⟨_, _, hd, by omega, inSet_byte t _, fun _ => rfl, Nat.le_refl _, by omega⟩
  · have hh := last_high l b (by omega)
    have hr : (Lib.decodeLastL (l ++ [b])).1 ≤ 2147483647 := by
      unfold Lib.decodeLastL
      rw [if_neg (by simp)]
      split
      · rename_i h; simp [List.getD] at h; omega
      · dsimp only
        split
        · exact Nat.le_trans (Lib.decodeL_rune _) (by decide)
        · decide
    obtain ⟨d, he⟩ : ∃ d, Lib.decodeLastL (l ++ [b]) = d := ⟨_, rfl⟩
    rw [he] at hh hw hr ⊢
    obtain ⟨r, wd⟩ := d
    refine ⟨r, wd, rfl, hr, ?_, fun hm => absurd (ha _ hm) hb, hw.1, hw.2⟩
    rw [inSet_high t ha r hh, decide_eq_false (fun hm => hb (ha _ hm))]
set_option maxRecDepth 100000 in
set_option maxHeartbeats 3200000 in
theorem cutRight_any (s t : ByteArray) (w : World) (hG : Good w) (hs : s.size < 4294967281) (ht : t.size < 4294967281) (hasc : ∀ x ∈ t.data.toList, x.toNat < 128) :
    Calls Tryz.prog 74 #[.string s, .string t] w fun e w' => (∃ r : ByteArray, e = .returned (.string r) ∧ (r.data.toList = [] ↔ s.data.toList.all (fun x => decide (x ∈ t.data.toList)) = true)) ∧ Below w.heap.size w w' := by
  have HA := Lib.hid hasc
  have HG := Lib.hid hG
  clear hasc hG
  have HTS := Lib.hid (Lib.size_eq t)
  go_enter Tryz.func74, Tryz.ntmps74
  go_wp2_with fail
  go_loopw [0] (fun v wr => Below w.heap.size w wr ∧ ∃ (sb : ByteArray) (rest : List UInt8), v = .string sb ∧ sb.size ≤ s.size ∧ Hid (s.data.toList = sb.data.toList ++ rest) ∧ Hid (rest.all (fun x => decide (x ∈ t.data.toList)) = true)) (fun v _ => szV v)
  case atStart => exact ⟨Below.refl _ _, s, [], rfl, Nat.le_refl _, Lib.hid (by simp), Lib.hid rfl⟩
  case round =>
    obtain ⟨hB, sb, rest, rfl, hle, hSp, hAll⟩ := hrel
    have HB := Lib.hid hB
    clear hB
    by_cases h0 : 0 < sb.size
    · obtain ⟨l, b, hlb⟩ : ∃ l b, sb.data.toList = l ++ [b] := by
        have hne : sb.data.toList ≠ [] := by
          intro h
          rw [Lib.size_eq, h] at h0
          simp at h0
        exact ⟨_, _, (List.dropLast_concat_getLast hne).symm⟩
      obtain ⟨r, wd, hd, hr, hin, hw1, hw0, hwl⟩ := last_at l t.data.toList b HA.out
      have HD := Lib.hid (Tryz.utf8_DecodeLastRuneInString sb wr (by omega) (HG.out.below HB.out).u8)
      rw [hlb, hd] at HD
      have hsbl : sb.size = l.length + 1 := by rw [Lib.size_eq, hlb]; simp
      have HIn := Lib.hid hin
      have HW1 := Lib.hid hw1
      have HLB := Lib.hid hlb
      clear hd hin hw1 hlb
      go_wp2_with fail
      refine HD.out.mono ?_
      rintro e w1 ⟨rfl, hb⟩
      have HB1 := Lib.hid (below_then' HB.out hb)
      have hsz1 := HB1.out.size
      clear hb
      go_wp2_with fail
      have HT0 := Lib.hid (show (w1.iter t 0).heap[w1.heap.size]? = some (.stringIter t 0) from World.iter_heap w1 t 0)
      have HBi := Lib.hid (show Below w.heap.size w (w1.iter t 0) from HB1.out.alloc HB1.out.size (.stringIter t 0))
      go_loopw [7] (fun f wi => Below w.heap.size w wi ∧ ∃ q : Nat, wi.heap[w1.heap.size]? = some (.stringIter t q) ∧ q ≤ t.size ∧ f = .bool (inSet (t.data.toList.take q) r)) (fun _ wi => t.size - wi.iterPos w1.heap.size)
      case atStart => exact ⟨HBi.out, 0, HT0.out, Nat.zero_le _, rfl⟩
      case round =>
        obtain ⟨hBi, q, hiq, hqs, rfl⟩ := hrel
        have HBj := Lib.hid hBi
        by_cases hq : q < t.size
        · obtain ⟨c, hc⟩ : ∃ c, t[q]'hq = c := ⟨_, rfl⟩
          have hcl : t.data.toList[q]? = some c := by rw [← hc]; exact Lib.data_getElem? t q hq
          have hca : c.toNat < 128 := HA.out c (List.mem_of_getElem? hcl)
          have hnx : ∀ ty, (Instr.next (.pointer (some ⟨w1.heap.size, 0, none⟩)) true ty).run Tryz.prog wr = .ok (.tuple #[.bool true, .int .i64 q, .int .i32 c.toNat]) (wr.iterAt w1.heap.size t (q + 1)) := fun ty => by
            rw [Lib.run_next_ascii_at wr w1.heap.size t q ty hiq hq (by rw [hc]; exact hca), hc]
          have HQ2 := Lib.hid (Lib.iterAt_heap wr w1.heap.size t q (q + 1) hiq)
          have HB3 := Lib.hid (Lib.below_iterAt hBi hsz1 t (q + 1))
          have HQ := Lib.hid hiq
          have HN := Lib.hid (inSet_snoc t.data.toList q c r hcl)
          obtain ⟨f, hf⟩ : ∃ f, inSet (t.data.toList.take q) r = f := ⟨_, rfl⟩
          rw [hf] at HN ⊢
          clear hBi hcl hc hf hiq
          cases f with
          | true =>
            go_wp2_with fail
            go_roundw
            case rel => exact ⟨HB3.out, q + 1, HQ2.out, by omega, by rw [HN.out]; rfl⟩
            case measure =>
              have h1 := HQ2.out
              have h2 := HQ.out
              simp only [World.iterPos, h1, h2]
              omega
          | false =>
            go_wp2_with fail
            all_goals
              go_roundw
              case rel => exact ⟨HB3.out, q + 1, HQ2.out, by omega, by rw [HN.out, Bool.false_or]; first | rfl | rw [int_dec]⟩
              case measure =>
                have h1 := HQ2.out
                have h2 := HQ.out
                simp only [World.iterPos, h1, h2]
                omega
        · have hnx : ∀ ty, (Instr.next (.pointer (some ⟨w1.heap.size, 0, none⟩)) true ty).run Tryz.prog wr = .ok (.tuple #[.bool false]) wr := fun ty => Lib.run_next_end_at wr w1.heap.size t q ty hiq hq
          have hf : inSet (t.data.toList.take q) r = decide (b ∈ t.data.toList) := by
            rw [List.take_of_length_le (by rw [← HTS.out]; omega)]
            exact HIn.out
          rw [hf]
          clear hBi hiq hf
          by_cases hbt : b ∈ t.data.toList
          · rw [decide_eq_true hbt]
            have hwd := HW1.out hbt
            subst hwd
            have hex : (sb.extract 0 l.length).data.toList = l := by
              rw [extract_take sb _ (by omega), HLB.out]
              simp
            have HS2 := Lib.hid (show s.data.toList = (sb.extract 0 l.length).data.toList ++ (b :: rest) from by rw [hex, hSp.out, HLB.out]; simp)
            have HA2 := Lib.hid (show (b :: rest).all (fun x => decide (x ∈ t.data.toList)) = true from by rw [List.all_cons, decide_eq_true hbt, hAll.out]; rfl)
            have HZ := Lib.hid (show (sb.extract 0 l.length).size = l.length from by rw [Lib.size_eq, hex])
            clear hbt hex
            go_wp2_with fail
            go_roundw
            case rel => exact ⟨HBj.out, sb.extract 0 l.length, b :: rest, rfl, by rw [HZ.out]; omega, HS2, HA2⟩
            case measure =>
              show (sb.extract 0 l.length).size < sb.size
              rw [HZ.out]
              omega
          · rw [decide_eq_false hbt]
            have HR := Lib.hid (show sb.data.toList = [] ↔ s.data.toList.all (fun x => decide (x ∈ t.data.toList)) = true from by
              rw [hSp.out, HLB.out]
              constructor
              · intro h
                exact absurd h (by simp)
              · intro h
                rw [List.all_eq_true] at h
                exact absurd (of_decide_eq_true (h b (by simp))) hbt)
            clear hbt
            go_wp2_with fail
            go_ret
            exact ⟨⟨sb, rfl, HR.out⟩, HBj.out⟩
    · have HR := Lib.hid (show sb.data.toList = [] ↔ s.data.toList.all (fun x => decide (x ∈ t.data.toList)) = true from by
        have : sb.data.toList = [] := List.length_eq_zero_iff.1 (by rw [← Lib.size_eq]; omega)
        rw [hSp.out, this, List.nil_append]
        exact ⟨fun _ => hAll.out, fun _ => rfl⟩)
      go_wp2_with fail
      go_ret
      exact ⟨⟨sb, rfl, HR.out⟩, HB.out⟩
/-- What rules.made tells. -/
def madeF (t : List UInt8) (n : Nat) (l : List UInt8) : Bool := decide (¬ l = []) && (decide (l.length ≤ n) && l.all (fun x => decide (x ∈ t)))
theorem all_drop (p : UInt8 → Bool) (l : List UInt8) : (l.dropWhile p).all p = l.all p := by
  induction l with
  | nil => rfl
  | cons a l ih =>
    cases h : p a with
    | true => rw [List.dropWhile_cons_of_pos h, ih, List.all_cons, h, Bool.true_and]
    | false => rw [List.dropWhile_cons_of_neg (by simp [h])]
set_option maxRecDepth 100000 in
set_option maxHeartbeats 1600000 in
theorem made_any (s t : ByteArray) (n : Nat) (w : World) (hG : Good w) (hs : s.size < 4294967281) (ht : t.size < 4294967281) (hn : n < 4294967281) (hasc : ∀ x ∈ t.data.toList, x.toNat < 128) :
    Calls Tryz.prog 46 #[.string s, .string t, .int .i64 n] w fun e w' => e = .returned (.bool (madeF t.data.toList n s.data.toList)) ∧ Below w.heap.size w w' := by
  have HL := Lib.hid (cutLeft_any s t w hs ht hasc)
  have hdl : (s.data.toList.dropWhile (fun x => decide (x ∈ t.data.toList))).length ≤ s.size := by rw [Lib.size_eq]; exact dropWhile_le _
  have HR := Lib.hid (fun w1 (hb : Below w.heap.size w w1) => cutRight_any ⟨(s.data.toList.dropWhile (fun x => decide (x ∈ t.data.toList))).toArray⟩ t w1 (hG.below hb) (by rw [size_mk]; omega) ht hasc)
  rw [mk_toList, all_drop] at HR
  have hF : madeF t.data.toList n s.data.toList = (decide (¬ s.data.toList = []) && (decide (s.data.toList.length ≤ n) && s.data.toList.all (fun x => decide (x ∈ t.data.toList)))) := rfl
  rw [hF, ← Lib.size_eq]
  obtain ⟨al, hal⟩ : ∃ al, s.data.toList.all (fun x => decide (x ∈ t.data.toList)) = al := ⟨_, rfl⟩
  obtain ⟨db, hdb⟩ : ∃ db : ByteArray, (⟨(s.data.toList.dropWhile (fun x => decide (x ∈ t.data.toList))).toArray⟩ : ByteArray) = db := ⟨_, rfl⟩
  rw [hal] at HR ⊢
  rw [hdb] at HL HR
  clear hal hdb hF hdl hasc hG
  by_cases h1 : s.data.toList = []
  · have e1 : s.toList = [] := by rw [ByteArray.toList_eq]; exact h1
    have e1b : s.toList.isEmpty = true := by rw [e1]; rfl
    have HF := Lib.hid (show (decide (¬ s.data.toList = []) && (decide (s.size ≤ n) && al)) = false by simp [h1])
    rw [HF.out]
    clear h1
    go_enter Tryz.func46, Tryz.ntmps46
    go_wp2_with fail
    go_ret
    exact ⟨rfl, Below.refl _ _⟩
  · have e1 : ¬ s.toList = [] := by rw [ByteArray.toList_eq]; exact h1
    have e1b := not_empty e1
    rw [decide_eq_true h1, Bool.true_and]
    clear h1
    by_cases h2 : s.size ≤ n
    · have hd : decide ((s.size : Int) ≤ (n : Int)) = true := decide_eq_true (by omega)
      rw [decide_eq_true h2, Bool.true_and]
      go_enter Tryz.func46, Tryz.ntmps46
      go_wp2_with fail
      refine HL.out.mono ?_
      rintro e w1 ⟨rfl, hb⟩
      have HB1 := Lib.hid hb
      clear hb
      go_wp2_with fail
      refine (HR.out w1 HB1.out).mono ?_
      rintro e w2 ⟨⟨r, rfl, hr⟩, hb⟩
      have HB2 := Lib.hid (below_then' HB1.out hb)
      have HRr := Lib.hid (show r.toList.isEmpty = al from by
        rw [ByteArray.toList_eq]
        cases al with
        | true => rw [hr.2 rfl]; rfl
        | false =>
          refine not_empty (fun h => ?_)
          have := hr.1 h
          exact absurd this (by decide))
      clear hb hr
      go_wp2_with fail
      go_ret
      exact ⟨ret_bool (by rw [HRr.out]), HB2.out⟩
    · have hd : decide ((s.size : Int) ≤ (n : Int)) = false := decide_eq_false (by omega)
      rw [decide_eq_false h2, Bool.false_and]
      go_enter Tryz.func46, Tryz.ntmps46
      go_wp2_with fail
      go_ret
      exact ⟨rfl, Below.refl _ _⟩
end Go.Proofs.YtchooidhieaphaaGreatDoor
set_option linter.unusedVariables false
set_option linter.unusedSimpArgs false
namespace Go.Proofs.YtchooidhieaphaaGreatDoor
open Go.RowKit Go.Proofs.YtchooidhieaphaaGreatDoorW.PrintWords PRulesValues
def styleF (b2 : Bool) (v : List UInt8) : List UInt8 × Bool := (cssF v, b2 && decide (¬ cssF v = []))
def dirF (v : List UInt8) : List UInt8 × Bool := (v, decide (v = [108, 116, 114]) || (decide (v = [114, 116, 108]) || decide (v = [97, 117, 116, 111])))
set_option maxRecDepth 100000 in
set_option maxHeartbeats 1600000 in
theorem style_any (b1 b2 b3 : Bool) (A : Option Addr) (n c : Nat) (v : ByteArray) (w : World) (hG : Good w) (hv : v.size < 4294967200) :
    Calls Tryz.prog 25 #[.agg #[.bool b1, .bool b2, .bool b3, .slice A n c], .string v] w fun en w' => en = .returned (.tuple #[.string ⟨(styleF b2 v.data.toList).1.toArray⟩, .bool (styleF b2 v.data.toList).2]) ∧ Below w.heap.size w w' := by
  obtain ⟨W0, hW0⟩ : ∃ W0, w.alloc (Obj.cells #[Value.bool b1, Value.bool b2, Value.bool b3, .slice A n c] 43) = W0 := ⟨_, rfl⟩
  have hB0 : Below w.heap.size w W0 := hW0 ▸ (Below.refl _ _).alloc (Nat.le_refl _) _
  have hr0 : W0.heap[w.heap.size]? = some (.cells #[Value.bool b1, Value.bool b2, Value.bool b3, .slice A n c] 43 (0, 0)) := by rw [← hW0]; exact blk_new _ _
  have HB0 := Lib.hid hB0
  have HR0 := Lib.hid hr0
  have HW0 := Lib.hid hW0
  have HC := Lib.hid (cssClean_any v W0 (hG.below hB0) hv)
  have hF : styleF b2 v.data.toList = (cssF v.data.toList, b2 && decide (¬ cssF v.data.toList = [])) := rfl
  rw [hF]
  obtain ⟨cb, hcb⟩ : ∃ cb : ByteArray, (⟨(cssF v.data.toList).toArray⟩ : ByteArray) = cb := ⟨_, rfl⟩
  have hcl : cssF v.data.toList = cb.data.toList := by rw [← hcb]
  rw [hcb] at HC
  rw [hcl]
  clear hB0 hr0 hW0 hG hF hcb hcl
  have HD := Lib.hid (show decide (¬ cb.data.toList = []) = !cb.toList.isEmpty by rw [ByteArray.toList_eq]; cases cb.data.toList <;> rfl)
  go_enter Tryz.func25, Tryz.ntmps25
  go_wp2_with fail
  rw [HW0.out]
  refine HC.out.mono ?_
  rintro en w1 ⟨rfl, hb1⟩
  have HB1 := Lib.hid (below_then' HB0.out hb1)
  have hr := blk_below HR0.out hb1
  have j1 : w1.cell? ⟨w.heap.size, 1, none⟩ = some (.bool b2) := blk_cell hr 1
  clear hb1 hr
  cases b2 with
  | false =>
    go_wp2_with fail
    go_ret2
    exact ⟨rfl, HB1.out⟩
  | true =>
    go_wp2_with fail
    all_goals
      go_ret2
      exact ⟨tuple2 rfl (congrArg Value.bool (by rw [HD.out]; rfl)), HB1.out⟩
set_option maxRecDepth 100000 in
set_option maxHeartbeats 1600000 in
theorem dir_any (b1 b2 b3 : Bool) (A : Option Addr) (n c : Nat) (v : ByteArray) (w : World) :
    Calls Tryz.prog 26 #[.agg #[.bool b1, .bool b2, .bool b3, .slice A n c], .string v] w fun en w' => en = .returned (.tuple #[.string ⟨(dirF v.data.toList).1.toArray⟩, .bool (dirF v.data.toList).2]) ∧ Below w.heap.size w w' := by
  have hB0 : Below w.heap.size w (w.alloc (Obj.cells #[Value.bool b1, Value.bool b2, Value.bool b3, .slice A n c] 43)) := (Below.refl _ _).alloc (Nat.le_refl _) _
  have HB := Lib.hid hB0
  clear hB0
  by_cases h1 : v.data.toList = [108, 116, 114]
  · have e1 := beq_yes h1
    have HF := Lib.hid (show (dirF v.data.toList).2 = true by simp [dirF, h1])
    rw [HF.out]
    clear h1
    go_enter Tryz.func26, Tryz.ntmps26
    go_wp2_with fail
    go_ret2
    exact ⟨rfl, HB.out⟩
  · have e1 := beq_no h1
    by_cases h2 : v.data.toList = [114, 116, 108]
    · have e2 := beq_yes h2
      have HF := Lib.hid (show (dirF v.data.toList).2 = true by simp [dirF, h2])
      rw [HF.out]
      clear h1 h2
      go_enter Tryz.func26, Tryz.ntmps26
      go_wp2_with fail
      go_ret2
      exact ⟨rfl, HB.out⟩
    · have e2 := beq_no h2
      by_cases h3 : v.data.toList = [97, 117, 116, 111]
      · have e3 := beq_yes h3
        have HF := Lib.hid (show (dirF v.data.toList).2 = true by simp [dirF, h3])
        rw [HF.out]
        clear h1 h2 h3
        go_enter Tryz.func26, Tryz.ntmps26
        go_wp2_with fail
        go_ret2
        exact ⟨rfl, HB.out⟩
      · have e3 := beq_no h3
        have HF := Lib.hid (show (dirF v.data.toList).2 = false by simp [dirF, h1, h2, h3])
        rw [HF.out]
        clear h1 h2 h3
        go_enter Tryz.func26, Tryz.ntmps26
        go_wp2_with fail
        go_ret2
        exact ⟨rfl, HB.out⟩
set_option maxRecDepth 100000 in
theorem text_any (b1 b2 b3 : Bool) (A : Option Addr) (n c : Nat) (v : ByteArray) (w : World) :
    Calls Tryz.prog 28 #[.agg #[.bool b1, .bool b2, .bool b3, .slice A n c], .string v] w fun en w' => en = .returned (.tuple #[.string v, .bool true]) ∧ Below w.heap.size w w' := by
  have hB0 : Below w.heap.size w (w.alloc (Obj.cells #[Value.bool b1, Value.bool b2, Value.bool b3, .slice A n c] 43)) := (Below.refl _ _).alloc (Nat.le_refl _) _
  have HB := Lib.hid hB0
  clear hB0
  go_enter Tryz.func28, Tryz.ntmps28
  go_wp2_with fail
  go_ret2
  exact ⟨rfl, HB.out⟩
def langSet : List UInt8 := [97, 98, 99, 100, 101, 102, 103, 104, 105, 106, 107, 108, 109, 110, 111, 112, 113, 114, 115, 116, 117, 118, 119, 120, 121, 122, 65, 66, 67, 68, 69, 70, 71, 72, 73, 74, 75, 76, 77, 78, 79, 80, 81, 82, 83, 84, 85, 86, 87, 88, 89, 90, 48, 49, 50, 51, 52, 53, 54, 55, 56, 57, 45]
def sizeSet : List UInt8 := [48, 49, 50, 51, 52, 53, 54, 55, 56, 57]
def langF (v : List UInt8) : List UInt8 × Bool := (v, madeF langSet 20 v)
def sizeF (v : List UInt8) : List UInt8 × Bool := (v, madeF sizeSet 4 v)
set_option maxRecDepth 100000 in
theorem lang_any (b1 b2 b3 : Bool) (A : Option Addr) (n c : Nat) (v : ByteArray) (w : World) (hG : Good w) (hv : v.size < 4294967281) :
    Calls Tryz.prog 27 #[.agg #[.bool b1, .bool b2, .bool b3, .slice A n c], .string v] w fun en w' => en = .returned (.tuple #[.string ⟨(langF v.data.toList).1.toArray⟩, .bool (langF v.data.toList).2]) ∧ Below w.heap.size w w' := by
  obtain ⟨W0, hW0⟩ : ∃ W0, w.alloc (Obj.cells #[Value.bool b1, Value.bool b2, Value.bool b3, .slice A n c] 43) = W0 := ⟨_, rfl⟩
  have hB0 : Below w.heap.size w W0 := hW0 ▸ (Below.refl _ _).alloc (Nat.le_refl _) _
  have HB0 := Lib.hid hB0
  have HW0 := Lib.hid hW0
  have HM := Lib.hid (made_any v ⟨langSet.toArray⟩ 20 W0 (hG.below hB0) hv (by decide) (by decide) (by decide))
  clear hB0 hW0 hG
  go_enter Tryz.func27, Tryz.ntmps27
  go_wp2_with fail
  rw [HW0.out]
  refine HM.out.mono ?_
  rintro en w1 ⟨rfl, hb1⟩
  have HB1 := Lib.hid (below_then' HB0.out hb1)
  clear hb1
  go_wp2_with fail
  go_ret2
  exact ⟨rfl, HB1.out⟩
set_option maxRecDepth 100000 in
theorem size_any (b1 b2 b3 : Bool) (A : Option Addr) (n c : Nat) (v : ByteArray) (w : World) (hG : Good w) (hv : v.size < 4294967281) :
    Calls Tryz.prog 29 #[.agg #[.bool b1, .bool b2, .bool b3, .slice A n c], .string v] w fun en w' => en = .returned (.tuple #[.string ⟨(sizeF v.data.toList).1.toArray⟩, .bool (sizeF v.data.toList).2]) ∧ Below w.heap.size w w' := by
  obtain ⟨W0, hW0⟩ : ∃ W0, w.alloc (Obj.cells #[Value.bool b1, Value.bool b2, Value.bool b3, .slice A n c] 43) = W0 := ⟨_, rfl⟩
  have hB0 : Below w.heap.size w W0 := hW0 ▸ (Below.refl _ _).alloc (Nat.le_refl _) _
  have HB0 := Lib.hid hB0
  have HW0 := Lib.hid hW0
  have HM := Lib.hid (made_any v ⟨sizeSet.toArray⟩ 4 W0 (hG.below hB0) hv (by decide) (by decide) (by decide))
  clear hB0 hW0 hG
  go_enter Tryz.func29, Tryz.ntmps29
  go_wp2_with fail
  rw [HW0.out]
  refine HM.out.mono ?_
  rintro en w1 ⟨rfl, hb1⟩
  have HB1 := Lib.hid (below_then' HB0.out hb1)
  clear hb1
  go_wp2_with fail
  go_ret2
  exact ⟨rfl, HB1.out⟩
/-- What the name's method tells. -/
def judgeF (b1 b2 : Bool) (l : List S39) (m : Nat) (v : List UInt8) : List UInt8 × Bool :=
  if m = 23 then hrefF v else if m = 24 then srcF b1 l v else if m = 25 then styleF b2 v else if m = 26 then dirF v else if m = 27 then langF v else if m = 28 then (v, true) else sizeF v
/-- What rules.Value tells. -/
def valueF (b1 b2 : Bool) (l : List S39) (e n v : List UInt8) : List UInt8 × Bool :=
  if attrF e n = true then (if (judgeF b1 b2 l (methOf n) v).2 = true then ((judgeF b1 b2 l (methOf n) v).1, true) else ([], false)) else ([], false)
theorem methOf_cases (n : List UInt8) : methOf n = 23 ∨ methOf n = 24 ∨ methOf n = 25 ∨ methOf n = 26 ∨ methOf n = 27 ∨ methOf n = 28 ∨ methOf n = 29 := by
  unfold methOf
  simp only [methNs, List.foldl_cons, List.foldl_nil]
  repeat' split
  all_goals simp
theorem value_any (b1 b2 b3 : Bool) (A : Option Addr) (c : Nat) (l : List S39) (e nm v : ByteArray) (w : World) (hG : Good w) (he : e.size < 4294967281) (hn : nm.size < 4294967281) (hv : v.size < 4294967200) (hC : Kd.C k39 w A l.length l) (hl : l.length < 9223372036854775807) :
    Calls Tryz.prog 14 #[.agg #[.bool b1, .bool b2, .bool b3], .slice A l.length c, .string e, .agg #[.string nm, .string v]] w fun en w' => en = .returned (.tuple #[.string ⟨(valueF b1 b2 l e.data.toList nm.data.toList v.data.toList).1.toArray⟩, .bool (valueF b1 b2 l e.data.toList nm.data.toList v.data.toList).2]) ∧ Below w.heap.size w w' := by
  unfold valueF
  by_cases h1 : attrF e.data.toList nm.data.toList = true
  · rw [if_pos h1]
    have hM : ∀ w1, Below w.heap.size w w1 → Calls Tryz.prog (methOf nm.data.toList) #[.agg #[.bool b1, .bool b2, .bool b3, .slice A l.length c], .string v] w1 fun en w' => en = .returned (.tuple #[.string ⟨(judgeF b1 b2 l (methOf nm.data.toList) v.data.toList).1.toArray⟩, .bool (judgeF b1 b2 l (methOf nm.data.toList) v.data.toList).2]) ∧ Below w1.heap.size w1 w' := by
      intro w1 hb
      rcases methOf_cases nm.data.toList with h | h | h | h | h | h | h <;> rw [h]
      · exact href_any b1 b2 b3 A l.length c v w1 (hG.below hb) (by omega)
      · exact src_any b1 b2 b3 A c l v w1 (hG.below hb) (by omega) (Kd.C_below hC hb) hl
      · exact style_any b1 b2 b3 A l.length c v w1 (hG.below hb) hv
      · exact dir_any b1 b2 b3 A l.length c v w1
      · exact lang_any b1 b2 b3 A l.length c v w1 (hG.below hb) (by omega)
      · exact text_any b1 b2 b3 A l.length c v w1
      · exact size_any b1 b2 b3 A l.length c v w1 (hG.below hb) (by omega)
    have eg : ∀ args w, (callFunc (methOf nm.data.toList) args).run Tryz.prog w = .ok (.enter (methOf nm.data.toList) args) w := by
      intro args w
      rcases methOf_cases nm.data.toList with h | h | h | h | h | h | h <;> rw [h] <;> kernel_rfl
    refine (value_walk b1 b2 b3 A l.length c e nm v ⟨(judgeF b1 b2 l (methOf nm.data.toList) v.data.toList).1.toArray⟩ (judgeF b1 b2 l (methOf nm.data.toList) v.data.toList).2 (methOf nm.data.toList) w hG he hn h1 rfl eg hM).mono ?_
    rintro en w' ⟨rfl, hb⟩
    refine ⟨?_, hb⟩
    cases (judgeF b1 b2 l (methOf nm.data.toList) v.data.toList).2 <;> rfl
  · rw [if_neg h1]
    exact value_off b1 b2 b3 A l.length c e nm v w hG he hn (by simpa using h1)
end Go.Proofs.YtchooidhieaphaaGreatDoor
