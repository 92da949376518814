/- The document's Cut and Clean of styles say what declsF and cssF say: plain functions, no program. Condition: texts below 2^32 - 96 bytes. -/
import Derived.Test.YtchooidhieaphaaGreatDoorRefLink
import Derived.Test.YtchooidhieaphaaGreatDoorQClean
set_option linter.unusedVariables false
set_option linter.unusedSimpArgs false
namespace Go.Proofs.YtchooidhieaphaaGreatDoor
open Go.RowKit Go.Proofs.YtchooidhieaphaaGreatDoorW.PrintWords PRulesValues PQ
theorem space_f (c : UInt8) : muslinref04_Space.f (c.toNat : Int) = some (ws5.contains c) := by
  have h : ∀ n : Fin 256, muslinref04_Space.f ((UInt8.ofNat n.val).toNat : Int) = some (ws5.contains (UInt8.ofNat n.val)) := by decide +kernel
  have := h ⟨c.toNat, c.toNat_lt⟩
  simpa using this
def trimW (l : List UInt8) : List UInt8 := (l.reverse.dropWhile fun c => ws5.contains c).reverse
theorem rt_l1 : ∀ (n : Nat) (s : ByteArray) (k : Nat), s.size = n → n < 4294967296 → n + 1 ≤ k → muslinref17_trim.l1 k s = some ⟨(trimW s.data.toList).toArray⟩ := by
  intro n
  induction n with
  | zero =>
    intro s k hn hb hk
    obtain ⟨m, rfl⟩ : ∃ m, k = m + 1 := ⟨k - 1, by omega⟩
    have h0 : s.data.toList = [] := List.length_eq_zero_iff.1 (by rw [← Lib.size_eq]; exact hn)
    simp only [muslinref17_trim.l1]
    rw [if_neg (by omega), h0]
    have : s = ⟨s.data.toList.toArray⟩ := rfl
    rw [this, h0]
    rfl
  | succ n ih =>
    intro s k hn hb hk
    obtain ⟨m, rfl⟩ : ∃ m, k = m + 1 := ⟨k - 1, by omega⟩
    obtain ⟨c, hd, hbt⟩ := bt_drop s n (by omega)
    have hw : wrap64 ((s.size : Int) - 1) = (n : Int) := by unfold wrap64; omega
    have hl : s.data.toList = (s.extract 0 n).data.toList ++ [c] := by
      rw [extract_take s n (by omega)]
      conv => lhs; rw [← List.take_append_drop n s.data.toList]
      rw [hd, List.drop_of_length_le (by rw [← Lib.size_eq]; omega)]
    have hz := size_take s n (by omega)
    simp only [muslinref17_trim.l1, hw, hbt, space_f, Option.bind_some]
    rw [if_pos (by omega), if_pos (by omega), if_pos (by omega)]
    have hT : trimW s.data.toList = if ws5.contains c = true then trimW (s.extract 0 n).data.toList else s.data.toList := by
      unfold trimW
      rw [hl, rdrop_snoc]
    by_cases hc : ws5.contains c = true
    · rw [if_pos hc] at hT
      rw [if_pos hc, if_pos (by omega), hT, Int.toNat_natCast]
      exact ih _ m hz (by omega) (by omega)
    · rw [if_neg hc] at hT
      rw [if_neg hc, hT]
theorem rt_j1 (s : ByteArray) (hs : s.size < 4294967296) (k : Nat) (hk : s.size + 2 ≤ k) : muslinref17_trim.j1 k s = some ⟨(trimW s.data.toList).toArray⟩ := by
  obtain ⟨m, rfl⟩ : ∃ m, k = m + 1 := ⟨k - 1, by omega⟩
  simp only [muslinref17_trim.j1]
  exact rt_l1 s.size s m rfl hs (by omega)
theorem rt_l0 : ∀ (n : Nat) (s : ByteArray) (k : Nat), s.size = n → n < 4294967296 → 2 * n + 4 ≤ k → muslinref17_trim.l0 k s = some ⟨(trimW (s.data.toList.dropWhile fun c => ws5.contains c)).toArray⟩ := by
  intro n
  induction n with
  | zero =>
    intro s k hn hb hk
    obtain ⟨m, rfl⟩ : ∃ m, k = m + 1 := ⟨k - 1, by omega⟩
    simp only [muslinref17_trim.l0]
    rw [if_neg (by omega), rt_j1 s (by omega) m (by omega)]
    have : s.data.toList = [] := List.length_eq_zero_iff.1 (by rw [← Lib.size_eq]; exact hn)
    rw [this]
    rfl
  | succ n ih =>
    intro s k hn hb hk
    obtain ⟨m, rfl⟩ : ∃ m, k = m + 1 := ⟨k - 1, by omega⟩
    obtain ⟨c, hd, hbt⟩ := bt_drop s 0 (by omega)
    rw [List.drop_zero] at hd
    have hz := size_drop s 1
    simp only [muslinref17_trim.l0]
    rw [if_pos (by omega), if_pos (by omega)]
    rw [show bt s 0 = (c.toNat : Int) from hbt, space_f, Option.bind_some, hd]
    by_cases hc : ws5.contains c = true
    · rw [List.dropWhile_cons_of_pos hc]
      rw [if_pos hc, if_pos (by omega)]
      have := ih (s.extract 1 s.size) m (by omega) (by omega) (by omega)
      rw [extract_drop'] at this
      exact this
    · rw [List.dropWhile_cons_of_neg hc]
      rw [if_neg hc, rt_j1 s (by omega) m (by omega), ← hd]
/-- The document's trim. -/
theorem ref_trim (s : ByteArray) (hs : s.size < 4294967296) (k : Nat) (hk : 2 * s.size + 4 ≤ k) : muslinref17_trim.f k s = some ⟨(Lib.trimS s.data.toList ws5).toArray⟩ := by
  unfold muslinref17_trim.f
  rw [rt_l0 s.size s k rfl hs hk]
  congr 3
  exact (drop_swap (fun c => ws5.contains c) s.data.toList).symm
/-- What is open: a quote, and brackets. -/
def stk (q : UInt8) (d : Nat) : List UInt8 := if q = 0 then List.replicate d 41 else q :: List.replicate d 41
def piecesF (l : List UInt8) : List (List UInt8) :=
  l.take (endF l) :: (if h : endF l < l.length then piecesF (l.drop (endF l + 1)) else [])
  termination_by l.length
  decreasing_by simp; omega
def restF (l : List UInt8) (j : Nat) : List (List UInt8) := if j < l.length then piecesF (l.drop (j + 1)) else []
def mkB (l : List UInt8) : ByteArray := ⟨l.toArray⟩
theorem mkB_extract (s : ByteArray) (a b : Nat) : s.extract a b = mkB ((s.data.toList.take b).drop a) := by
  have h : (s.extract a b).data.toList = (s.data.toList.take b).drop a := by
    rw [extract_mid, List.drop_take]
  rw [← h]
  rfl
theorem pieces_eq (l : List UInt8) : piecesF l = l.take (endF l) :: restF l (endF l) := by
  rw [piecesF]
  unfold restF
  split <;> rfl
theorem stk_zero (d : Nat) : stk 0 d = List.replicate d 41 := rfl
theorem stk_q {q : UInt8} (h : q ≠ 0) (d : Nat) : stk q d = q :: List.replicate d 41 := if_neg h
theorem quote_zero (d : Nat) : quoteB (stk 0 d) = false := by
  cases d with
  | zero => rfl
  | succ d => rfl
theorem pieces_l0 (s : ByteArray) (hs : s.size < 4294967281) : ∀ (n i k : Nat) (acc : List ByteArray) (frm d : Nat) (q : UInt8), s.size - i = n → i ≤ s.size → 4 * n + 4 ≤ k → acc.length ≤ i → frm ≤ i → d ≤ i → (q = 0 ∨ q = 34 ∨ q = 39) →
    muslinref17_pieces.l0 k s acc (frm : Int) (d : Int) (q.toNat : Int) (i : Int) = some (acc ++ ((s.data.toList.take (i + endG false (stk q d) (s.data.toList.drop i))).drop frm :: restF s.data.toList (i + endG false (stk q d) (s.data.toList.drop i))).map mkB) := by
  intro n
  induction n using Nat.strongRecOn with
  | _ n ih =>
  intro i k acc frm d q hn hi hk ha hf hd hq
  have hll := Lib.size_eq s
  have fin : ∀ (k' : Nat) (j : Int) (e : Nat), 1 ≤ k' → (s.size : Int) ≤ j → s.size ≤ e → muslinref17_pieces.l0 k' s acc (frm : Int) (d : Int) (q.toNat : Int) j = some (acc ++ ((s.data.toList.take e).drop frm :: restF s.data.toList e).map mkB) := by
    intro k' j e h1 h2 h3
    obtain ⟨z, rfl⟩ : ∃ z, k' = z + 1 := ⟨k' - 1, by omega⟩
    simp only [muslinref17_pieces.l0]
    rw [if_neg (by omega), if_pos (by omega), if_pos (by omega), if_pos (by omega), Int.toNat_natCast, mkB_extract]
    unfold restF
    rw [if_neg (by omega), List.take_of_length_le (by omega), List.take_of_length_le (by omega)]
    rfl
  obtain ⟨m, rfl⟩ : ∃ m, k = m + 4 := ⟨k - 4, by omega⟩
  by_cases hlt : i < s.size
  · have w1 : wrap64 ((i : Int) + 1) = ((i + 1 : Nat) : Int) := by unfold wrap64; omega
    have w2 : wrap64 (((i + 1 : Nat) : Int) + 1) = ((i + 2 : Nat) : Int) := by unfold wrap64; omega
    have W1 := Lib.hid w1
    have W2 := Lib.hid w2
    clear w1 w2
    obtain ⟨c, hcd, hb⟩ := bt_drop s i hlt
    have HB := Lib.hid hb
    clear hb
    rw [hcd]
    have next : ∀ (d' : Nat) (q' : UInt8), d' ≤ i + 1 → (q' = 0 ∨ q' = 34 ∨ q' = 39) → ∀ k', m ≤ k' →
        muslinref17_pieces.l0 k' s acc (frm : Int) (d' : Int) (q'.toNat : Int) ((i + 1 : Nat) : Int) = some (acc ++ ((s.data.toList.take (i + (endG false (stk q' d') (s.data.toList.drop (i + 1)) + 1))).drop frm :: restF s.data.toList (i + (endG false (stk q' d') (s.data.toList.drop (i + 1)) + 1))).map mkB) := by
      intro d' q' h1 h2 k' h3
      have := ih (s.size - (i + 1)) (by omega) (i + 1) k' acc frm d' q' rfl (by omega) (by omega) (by omega) (by omega) h1 h2
      rw [this, show i + 1 + endG false (stk q' d') (s.data.toList.drop (i + 1)) = i + (endG false (stk q' d') (s.data.toList.drop (i + 1)) + 1) by omega]
    have skip : ∀ k', m ≤ k' → muslinref17_pieces.l0 k' s acc (frm : Int) (d : Int) (q.toNat : Int) ((i + 2 : Nat) : Int) = some (acc ++ ((s.data.toList.take (i + (endG true (stk q d) (s.data.toList.drop (i + 1)) + 1))).drop frm :: restF s.data.toList (i + (endG true (stk q d) (s.data.toList.drop (i + 1)) + 1))).map mkB) := by
      intro k' hk'
      by_cases h2 : i + 1 < s.size
      · obtain ⟨c2, hd2, _⟩ := bt_drop s (i + 1) h2
        rw [hd2]
        have := ih (s.size - (i + 2)) (by omega) (i + 2) k' acc frm d q rfl (by omega) (by omega) (by omega) (by omega) (by omega) hq
        show _ = some (acc ++ ((s.data.toList.take (i + (endG false (stk q d) (s.data.toList.drop (i + 2)) + 1 + 1))).drop frm :: restF s.data.toList (i + (endG false (stk q d) (s.data.toList.drop (i + 2)) + 1 + 1))).map mkB)
        rw [this, show i + 2 + endG false (stk q d) (s.data.toList.drop (i + 2)) = i + (endG false (stk q d) (s.data.toList.drop (i + 2)) + 1 + 1) by omega]
      · have hdr : s.data.toList.drop (i + 1) = [] := List.drop_of_length_le (by omega)
        have h0 : endG true (stk q d) [] = 0 := rfl
        rw [hdr, h0]
        exact fin k' _ _ (by omega) (by omega) (by omega)
    have hcut : q = 0 → d = 0 → ∀ k', m ≤ k' → muslinref17_pieces.l0 k' s (acc ++ [s.extract frm i]) ((i + 1 : Nat) : Int) (d : Int) (q.toNat : Int) ((i + 1 : Nat) : Int) = some (acc ++ ((s.data.toList.take (i + 0)).drop frm :: restF s.data.toList (i + 0)).map mkB) := by
      intro h1 h2 k' hk'
      subst h1
      subst h2
      have := ih (s.size - (i + 1)) (by omega) (i + 1) k' (acc ++ [s.extract frm i]) (i + 1) 0 0 rfl (by omega) (by omega) (by simp; omega) (by omega) (by omega) (.inl rfl)
      refine this.trans ?_
      show _ = some (acc ++ ((s.data.toList.take i).drop frm :: restF s.data.toList i).map mkB)
      have hr : restF s.data.toList i = piecesF (s.data.toList.drop (i + 1)) := if_pos (by omega)
      have he : endG false (stk 0 0) (s.data.toList.drop (i + 1)) = endF (s.data.toList.drop (i + 1)) := rfl
      rw [hr, pieces_eq, he, mkB_extract]
      have h3 : (s.data.toList.take (i + 1 + endF (s.data.toList.drop (i + 1)))).drop (i + 1) = (s.data.toList.drop (i + 1)).take (endF (s.data.toList.drop (i + 1))) := by
        rw [List.drop_take]
        congr 1
        omega
      have h4 : restF s.data.toList (i + 1 + endF (s.data.toList.drop (i + 1))) = restF (s.data.toList.drop (i + 1)) (endF (s.data.toList.drop (i + 1))) := by
        unfold restF
        rw [List.length_drop, List.drop_drop]
        by_cases hx : i + 1 + endF (s.data.toList.drop (i + 1)) < s.data.toList.length
        · rw [if_pos hx, if_pos (by omega), show i + 1 + endF (s.data.toList.drop (i + 1)) + 1 = i + 1 + (endF (s.data.toList.drop (i + 1)) + 1) by omega]
        · rw [if_neg hx, if_neg (by omega)]
      rw [h3, h4]
      simp
    generalize hrest : s.data.toList.drop (i + 1) = rest at next skip
    have c34 := Lib.hid (show (c.toNat : Int) = 34 ↔ c = 34 from u8_eq_int c 34 (by decide))
    have c39 := Lib.hid (show (c.toNat : Int) = 39 ↔ c = 39 from u8_eq_int c 39 (by decide))
    have c40 := Lib.hid (show (c.toNat : Int) = 40 ↔ c = 40 from u8_eq_int c 40 (by decide))
    have c41 := Lib.hid (show (c.toNat : Int) = 41 ↔ c = 41 from u8_eq_int c 41 (by decide))
    have c59 := Lib.hid (show (c.toNat : Int) = 59 ↔ c = 59 from u8_eq_int c 59 (by decide))
    have c92 := Lib.hid (show (c.toNat : Int) = 92 ↔ c = 92 from u8_eq_int c 92 (by decide))
    simp only [endG]
    by_cases hq0 : q = 0
    · subst hq0
      have hquo := quote_zero d
      rw [hquo]
      rw [if_neg (show ¬ (false = true ∧ c = 92) from fun h => absurd h.1 (by decide))]
      -- the text's own steps
      have e1 : muslinref17_pieces.l0 (m + 4) s acc (frm : Int) (d : Int) ((0 : UInt8).toNat : Int) (i : Int) = muslinref17_pieces.j1 (m + 3) s acc (frm : Int) (d : Int) ((0 : UInt8).toNat : Int) (i : Int) (c.toNat : Int) (decide (c = 34 ∨ c = 39)) := by
        rw [show m + 4 = (m + 3) + 1 from rfl]
        generalize m + 3 = M
        simp only [muslinref17_pieces.l0, HB.out]
        rw [if_pos (by omega), if_pos (by omega), if_pos (by rfl)]
        by_cases h1 : c = 34
        · rw [if_pos (c34.out.2 h1), decide_eq_true (.inl h1)]
        · rw [if_neg (fun h => h1 (c34.out.1 h))]
          by_cases h2 : c = 39
          · rw [decide_eq_true (.inr h2), h2]; rfl
          · rw [decide_eq_false (fun h => h.elim h1 h2), beq_eq_false_iff_ne.2 (fun h => h2 (c39.out.1 h))]
      rw [e1]
      have hz : ((0 : UInt8).toNat : Int) = 0 := rfl
      by_cases hqt : c = 34 ∨ c = 39
      · rw [decide_eq_true hqt]
        have hp : popB (stk 0 d) c = false := by
          rw [stk_zero]
          cases d with
          | zero => rfl
          | succ d =>
            show decide (c = 41) = false
            rw [decide_eq_false_iff_not]
            rcases hqt with rfl | rfl <;> decide
        rw [hp, if_neg (show ¬ (false = true) by decide), if_neg (show ¬ (false = true) by decide), if_pos hqt]
        simp only [muslinref17_pieces.j1]
        rw [if_pos trivial, W1.out]
        have hst : stk c d = c :: stk 0 d := by
          rw [stk_q (by rcases hqt with rfl | rfl <;> decide)]
          rfl
        have := next d c (by omega) (by rcases hqt with rfl | rfl; exact .inr (.inl rfl); exact .inr (.inr rfl)) (m + 2) (by omega)
        rw [hst] at this
        exact this
      · rw [decide_eq_false hqt]
        simp only [muslinref17_pieces.j1]
        rw [if_neg (show ¬ (false = true) by decide)]
        by_cases h40 : c = 40
        · subst h40
          have hp : popB (stk 0 d) 40 = false := by
            rw [stk_zero]
            cases d with
            | zero => rfl
            | succ d => rfl
          rw [hp, if_neg (show ¬ (false = true) by decide), if_neg (show ¬ (false = true) by decide), if_neg hqt, if_pos rfl, if_pos (by rfl), W1.out]
          have hw : wrap64 ((d : Int) + 1) = ((d + 1 : Nat) : Int) := by unfold wrap64; omega
          have hst : stk 0 (d + 1) = 41 :: stk 0 d := rfl
          rw [hw, ← hst]
          exact next (d + 1) 0 (Nat.succ_le_succ hd) (.inl rfl) (m + 2) (Nat.le_add_right m 2)
        · rw [if_neg (fun h => h40 (c40.out.1 h))]
          by_cases h41 : c = 41
          · subst h41
            rw [if_pos (by rfl)]
            simp only [muslinref17_pieces.j2]
            cases d with
            | zero =>
              rw [if_neg (by decide), if_neg (by decide), W1.out]
              have hp : popB (stk 0 0) 41 = false := rfl
              rw [hp, if_neg (show ¬ (false = true) by decide), if_neg (show ¬ (false = true) by decide), if_neg hqt, if_neg h40, if_neg (show ¬ ((41 : UInt8) = 59 ∧ stk 0 0 = []) from fun h => absurd h.1 (by decide))]
              exact next 0 0 (Nat.zero_le _) (.inl rfl) (m + 1) (Nat.le_add_right m 1)
            | succ d =>
              rw [if_pos (by rw [decide_eq_true_eq]; omega), W1.out]
              have hw : wrap64 (((d + 1 : Nat) : Int) - 1) = (d : Int) := by unfold wrap64; omega
              have hp : popB (stk 0 (d + 1)) 41 = true := rfl
              have ht : (stk 0 (d + 1)).tail = stk 0 d := rfl
              rw [hw, hp, if_pos rfl, ht]
              exact next d 0 (by omega) (.inl rfl) (m + 1) (Nat.le_add_right m 1)
          · rw [if_neg (fun h => h41 (c41.out.1 h))]
            have hp : popB (stk 0 d) c = false := by
              rw [stk_zero]
              cases d with
              | zero => rfl
              | succ d => exact decide_eq_false h41
            rw [hp, if_neg (show ¬ (false = true) by decide), if_neg (show ¬ (false = true) by decide), if_neg hqt, if_neg h40]
            simp only [muslinref17_pieces.j2]
            rw [if_neg (show ¬ (false = true) by decide)]
            by_cases h59 : c = 59
            · rw [if_pos (c59.out.2 h59)]
              cases d with
              | zero =>
                rw [if_pos (by rfl), if_pos (by omega), if_pos (by omega), if_pos (by omega), if_pos (by omega), W1.out, if_pos (show c = 59 ∧ stk 0 0 = [] from ⟨h59, rfl⟩), Int.toNat_natCast, Int.toNat_natCast]
                exact hcut rfl rfl (m + 1) (by omega)
              | succ d =>
                rw [if_neg (by omega), W1.out, if_neg (show ¬ (c = 59 ∧ stk 0 (d + 1) = []) from fun h => by cases h.2)]
                exact next (d + 1) 0 (Nat.le_succ_of_le hd) (.inl rfl) (m + 1) (Nat.le_add_right m 1)
            · rw [if_neg (fun h => h59 (c59.out.1 h)), W1.out, if_neg (show ¬ (c = 59 ∧ stk 0 d = []) from fun h => h59 h.1)]
              exact next d 0 (by omega) (.inl rfl) (m + 1) (Nat.le_add_right m 1)
    · have hquo : quoteB (stk q d) = true := by
        rw [stk_q hq0]
        rcases hq with rfl | rfl | rfl
        · exact absurd rfl hq0
        · rfl
        · rfl
      have hqi : ¬ (q.toNat : Int) = 0 := fun h => hq0 ((u8_eq_int q 0 (by decide)).1 h)
      have hcq := Lib.hid (show (c.toNat : Int) = (q.toNat : Int) ↔ c = q from ⟨fun h => UInt8.toNat_inj.1 (by omega), fun h => by rw [h]⟩)
      rw [hquo, show m + 4 = (m + 3) + 1 from rfl]
      obtain ⟨M, hM⟩ : ∃ M, m + 3 = M := ⟨_, rfl⟩
      rw [hM]
      simp only [muslinref17_pieces.l0, HB.out]
      rw [if_pos (by omega), if_pos (by omega), if_neg hqi, W1.out, W2.out]
      by_cases h92 : c = 92
      · rw [if_pos (c92.out.2 h92), if_pos (show True ∧ c = 92 from ⟨trivial, h92⟩)]
        exact skip M (by omega)
      · rw [if_neg (fun h => h92 (c92.out.1 h)), if_neg (show ¬ (True ∧ c = 92) from fun h => h92 h.2)]
        have hp : popB (stk q d) c = decide (c = q) := by rw [stk_q hq0]; rfl
        rw [hp]
        by_cases hc : c = q
        · rw [if_pos (hcq.out.2 hc), if_pos (decide_eq_true hc)]
          have ht : (stk q d).tail = stk 0 d := by rw [stk_q hq0]; rfl
          rw [ht]
          exact next d 0 (by omega) (.inl rfl) M (by omega)
        · rw [if_neg (fun h => hc (hcq.out.1 h)), if_neg (by simpa using hc), if_pos trivial]
          exact next d q (by omega) hq M (by omega)
  · have : i = s.size := by omega
    subst this
    have hdr : s.data.toList.drop s.size = [] := List.drop_of_length_le (by omega)
    have h0 : endG false (stk q d) [] = 0 := rfl
    rw [hdr, h0]
    exact fin (m + 4) _ _ (by omega) (by omega) (by omega)
/-- The document's pieces. -/
theorem ref_pieces (s : ByteArray) (hs : s.size < 4294967281) (k : Nat) (hk : 4 * s.size + 4 ≤ k) : muslinref17_pieces.f k s = some ((piecesF s.data.toList).map mkB) := by
  have h := pieces_l0 s hs s.size 0 k [] 0 0 0 rfl (Nat.zero_le _) hk (Nat.zero_le _) (Nat.le_refl _) (Nat.le_refl _) (.inl rfl)
  rw [List.drop_zero, List.drop_zero, Nat.zero_add, List.nil_append] at h
  unfold muslinref17_pieces.f
  refine h.trans ?_
  rw [pieces_eq]
  rfl
theorem decls_pieces : ∀ (n : Nat) (l : List UInt8), l.length = n → declsF l = (piecesF l).flatMap declF := by
  intro n
  induction n using Nat.strongRecOn with
  | _ n ih =>
  intro l hl
  rw [declsF, piecesF, List.flatMap_cons]
  congr 1
  split
  · rename_i h
    exact ih (l.drop (endF l + 1)).length (by rw [List.length_drop]; omega) _ rfl
  · rfl
theorem pieces_len : ∀ (n : Nat) (l : List UInt8), l.length = n → (piecesF l).length ≤ l.length + 1 := by
  intro n
  induction n using Nat.strongRecOn with
  | _ n ih =>
  intro l hl
  rw [piecesF, List.length_cons]
  split
  · rename_i h
    have := ih (l.drop (endF l + 1)).length (by rw [List.length_drop]; omega) _ rfl
    rw [List.length_drop] at this
    omega
  · simp
theorem pieces_size : ∀ (n : Nat) (l : List UInt8), l.length = n → ∀ p ∈ piecesF l, p.length ≤ l.length := by
  intro n
  induction n using Nat.strongRecOn with
  | _ n ih =>
  intro l hl p hp
  rw [piecesF] at hp
  rcases List.mem_cons.1 hp with rfl | hp
  · rw [List.length_take]; omega
  · split at hp
    · rename_i h
      have := ih (l.drop (endF l + 1)).length (by rw [List.length_drop]; omega) _ rfl p hp
      rw [List.length_drop] at this
      omega
    · cases hp
theorem mkB_list (l : List UInt8) : (mkB l).data.toList = l := by simp [mkB]
theorem mkB_size (l : List UInt8) : (mkB l).size = l.length := size_mk l
def mk63 (d : List UInt8 × List UInt8) : S63 := ⟨mkB d.1, mkB d.2⟩
theorem decl_none (l : List UInt8) (h : (58 : UInt8) ∉ l) : declF l = [] := by
  have hf : (Lib.cut l [58]).2.2 = false := by
    cases hq : (Lib.cut l [58]).2.2 with
    | false => rfl
    | true => exact absurd (by rw [(cut_one l 58).1 hq]; simp) h
  unfold declF declV
  rw [((cut_one l 58).2 hf).2]
  exact if_pos (.inr (by decide))
theorem trimS_len (l : List UInt8) (cs : List UInt8) : (Lib.trimS l cs).length ≤ l.length := trimS_le l cs
set_option maxHeartbeats 800000 in
theorem cut_l1 (pcs : List ByteArray) (acc : List S63) (i : Nat) (p : List UInt8) (hp : rdOf ByteArray.empty pcs (i : Int) = mkB p) (hi : i < pcs.length) (hps : p.length < 4294967281) (hpl : pcs.length < 4294967296) (ha : acc.length ≤ i) (R : List S63) (K : Nat) (hK : 2 * p.length + 4 ≤ K)
    (hR : ∀ k', K ≤ k' → muslinref17_Cut.l0 k' pcs (acc ++ (declF p).map mk63) ((i + 1 : Nat) : Int) = some R) :
    ∀ (n j k : Nat), p.length - j = n → j ≤ p.length → K + n + 1 ≤ k → (58 : UInt8) ∉ p.take j → muslinref17_Cut.l1 k pcs acc (i : Int) (j : Int) = some R := by
  have W := Lib.hid (show wrap64 ((i : Int) + 1) = ((i + 1 : Nat) : Int) by unfold wrap64; omega)
  have hsz := mkB_size p
  intro n
  induction n with
  | zero =>
    intro j k hn hj hk hno
    obtain ⟨m, rfl⟩ : ∃ m, k = m + 1 := ⟨k - 1, by omega⟩
    rw [List.take_of_length_le (by omega)] at hno
    have h0 := hR m (by omega)
    rw [decl_none p hno, List.map_nil, List.append_nil] at h0
    simp only [muslinref17_Cut.l1, hp]
    rw [if_pos (by omega), if_pos (by omega), if_neg (by omega), W.out]
    exact h0
  | succ n ih =>
    intro j k hn hj hk hno
    obtain ⟨m, rfl⟩ : ∃ m, k = m + 1 := ⟨k - 1, by omega⟩
    have W2 := Lib.hid (show wrap64 ((j : Int) + 1) = ((j + 1 : Nat) : Int) by unfold wrap64; omega)
    obtain ⟨c, hcd, hb⟩ := bt_drop (mkB p) j (by omega)
    have HB := Lib.hid hb
    clear hb
    rw [mkB_list] at hcd
    simp only [muslinref17_Cut.l1, hp]
    rw [if_pos (by omega), if_pos (by omega), if_pos (by omega), if_pos (by omega), HB.out, W.out, W2.out]
    by_cases hc : c = 58
    · subst hc
      have hpc : p = p.take j ++ 58 :: p.drop (j + 1) := by rw [← hcd, List.take_append_drop]
      have hcut := cut_at (p.take j) (p.drop (j + 1)) 58 hno
      rw [← hpc] at hcut
      have e1 : (mkB p).extract 0 ((j : Int)).toNat = mkB (p.take j) := by rw [mkB_extract, mkB_list, Int.toNat_natCast]; rfl
      have e2 : (mkB p).extract (((j + 1 : Nat) : Int)).toNat (mkB p).size = mkB (p.drop (j + 1)) := by
        rw [mkB_extract, mkB_list, Int.toNat_natCast, List.take_of_length_le (by rw [mkB_size]; exact Nat.le_refl _)]
      have t1 : muslinref17_trim.f m (mkB (p.take j)) = some (mkB (Lib.trimS (p.take j) ws5)) := by
        have := ref_trim (mkB (p.take j)) (by rw [mkB_size, List.length_take]; omega) m (by rw [mkB_size, List.length_take]; omega)
        rw [mkB_list] at this
        exact this
      have t2 : muslinref17_trim.f m (mkB (p.drop (j + 1))) = some (mkB (Lib.trimS (p.drop (j + 1)) ws5)) := by
        have := ref_trim (mkB (p.drop (j + 1))) (by rw [mkB_size, List.length_drop]; omega) m (by rw [mkB_size, List.length_drop]; omega)
        rw [mkB_list] at this
        exact this
      have t3 : muslinref03_Small.f m (mkB (Lib.trimS (p.take j) ws5)) = some (mkB ((Lib.trimS (p.take j) ws5).map smallB)) := by
        unfold muslinref03_Small.f
        have := trimS_len (p.take j) ws5
        rw [List.length_take] at this
        rw [if_pos (by rw [mkB_size]; omega), mkB_list]
        rfl
      rw [if_pos (by rfl), if_pos (by omega), e1, t1, Option.bind_some, t3, Option.bind_some, if_pos (by omega), if_pos (by omega), e2, t2, Option.bind_some, ByteArray.toList_eq, ByteArray.toList_eq, mkB_list, mkB_list]
      have h0 := hR m (by omega)
      have hdn : declN p = (Lib.trimS (p.take j) ws5).map smallB := by unfold declN; rw [hcut]
      have hdv : declV p = Lib.trimS (p.drop (j + 1)) ws5 := by unfold declV; rw [hcut]
      have hd : declF p = if (Lib.trimS (p.take j) ws5).map smallB = [] ∨ Lib.trimS (p.drop (j + 1)) ws5 = [] then [] else [((Lib.trimS (p.take j) ws5).map smallB, Lib.trimS (p.drop (j + 1)) ws5)] := by
        unfold declF
        rw [hdn, hdv]
      rw [hd] at h0
      by_cases z1 : (Lib.trimS (p.take j) ws5).map smallB = []
      · rw [if_pos (.inl z1), List.map_nil, List.append_nil] at h0
        rw [if_pos z1]
        exact h0
      · rw [if_neg z1]
        by_cases z2 : Lib.trimS (p.drop (j + 1)) ws5 = []
        · rw [if_pos (.inr z2), List.map_nil, List.append_nil] at h0
          rw [if_pos z2]
          exact h0
        · rw [if_neg (fun h => h.elim z1 z2)] at h0
          rw [if_neg z2, if_pos (by omega)]
          exact h0
    · have hc2 : ¬ (c.toNat : Int) = 58 := fun h => hc ((u8_eq_int c 58 (by decide)).1 h)
      rw [if_neg hc2]
      clear hc2
      refine ih (j + 1) m (by omega) (by omega) (by omega) ?_
      have hlt : j < p.length := by omega
      have e : p.take (j + 1) = p.take j ++ [c] := by
        rw [List.take_succ_eq_append_getElem hlt]
        congr 2
        rw [List.drop_eq_getElem_cons hlt] at hcd
        injection hcd
      rw [e]
      intro hm
      rcases List.mem_append.1 hm with h | h
      · exact hno h
      · exact hc (List.mem_singleton.1 h).symm
theorem cut_l0 (ps : List (List UInt8)) (S : Nat) (hS : ∀ p ∈ ps, p.length ≤ S) (hS2 : S < 4294967281) (hpl : ps.length < 4294967296) : ∀ (n i k : Nat) (acc : List S63), ps.length - i = n → i ≤ ps.length → n * (S + 3) + 2 * S + 5 ≤ k → acc.length ≤ i →
    muslinref17_Cut.l0 k (ps.map mkB) acc (i : Int) = some (acc ++ ((ps.drop i).flatMap declF).map mk63) := by
  intro n
  induction n with
  | zero =>
    intro i k acc hn hi hk ha
    obtain ⟨m, rfl⟩ : ∃ m, k = m + 1 := ⟨k - 1, by omega⟩
    have hdr : ps.drop i = [] := List.drop_of_length_le (by omega)
    simp only [muslinref17_Cut.l0]
    rw [if_neg (by rw [List.length_map]; omega), hdr]
    simp
  | succ n ih =>
    intro i k acc hn hi hk ha
    obtain ⟨m, rfl⟩ : ∃ m, k = m + 1 := ⟨k - 1, by omega⟩
    have hil : i < ps.length := by omega
    simp only [muslinref17_Cut.l0]
    rw [if_pos (by rw [List.length_map]; omega)]
    rw [Nat.succ_mul] at hk
    have hd : ps.drop i = ps[i] :: ps.drop (i + 1) := List.drop_eq_getElem_cons hil
    have hp : rdOf ByteArray.empty (ps.map mkB) (i : Int) = mkB ps[i] := by
      unfold rdOf
      rw [Int.toNat_natCast, List.getD_eq_getElem?_getD, List.getElem?_map, List.getElem?_eq_getElem hil]
      rfl
    have hsz := hS ps[i] (List.getElem_mem hil)
    generalize ps[i] = p at hd hp hsz
    have hdl : (declF p).length ≤ 1 := by unfold declF; split <;> simp
    have h := cut_l1 (ps.map mkB) acc i p hp (by rw [List.length_map]; exact hil) (by omega) (by rw [List.length_map]; exact hpl) ha
      (acc ++ ((ps.drop i).flatMap declF).map mk63) (n * (S + 3) + 2 * S + 5) (by omega) (fun k' hk' => by
        have := ih (i + 1) k' (acc ++ (declF p).map mk63) (by omega) (by omega) hk' (by rw [List.length_append, List.length_map]; omega)
        rw [this, hd, List.flatMap_cons, List.map_append, List.append_assoc]) p.length 0 m (by omega) (Nat.zero_le _) (by omega) (by simp)
    exact h
/-- The document's Cut. -/
theorem ref_cut (s : ByteArray) (hs : s.size < 4294967281) (k : Nat) (hk : (s.size + 1) * (s.size + 3) + 4 * s.size + 5 ≤ k) : muslinref17_Cut.f k s = some ((declsF s.data.toList).map mk63) := by
  unfold muslinref17_Cut.f
  have hll := Lib.size_eq s
  have h1 := pieces_len _ s.data.toList rfl
  have h2 := pieces_size _ s.data.toList rfl
  rw [← hll] at h1 h2
  rw [ref_pieces s hs k (by omega), Option.bind_some]
  have hm : (piecesF s.data.toList).length * (s.size + 3) ≤ (s.size + 1) * (s.size + 3) := Nat.mul_le_mul_right _ h1
  have := cut_l0 (piecesF s.data.toList) s.size h2 hs (by omega) (piecesF s.data.toList).length 0 k [] rfl (Nat.zero_le _) (by omega) (Nat.le_refl _)
  rw [List.drop_zero, List.nil_append, ← decls_pieces _ _ rfl] at this
  exact this
theorem alpha_mem (c : UInt8) : decide (c ∈ alpha) = (c == 32 || c == 35 || c == 46 || c == 37 || c == 44 || c == 45 || c == 43 || c == 33 || letterB c || digitB c) := by
  have h : ∀ n : Fin 256, decide (UInt8.ofNat n.val ∈ alpha) = (UInt8.ofNat n.val == 32 || UInt8.ofNat n.val == 35 || UInt8.ofNat n.val == 46 || UInt8.ofNat n.val == 37 || UInt8.ofNat n.val == 44 || UInt8.ofNat n.val == 45 || UInt8.ofNat n.val == 43 || UInt8.ofNat n.val == 33 || letterB (UInt8.ofNat n.val) || digitB (UInt8.ofNat n.val)) := by decide +kernel
  have := h ⟨c.toNat, c.toNat_lt⟩
  simpa using this
theorem dropWhile_all (p : UInt8 → Bool) : ∀ (l : List UInt8), (∀ c ∈ l, p c = true) → l.dropWhile p = []
  | [], _ => rfl
  | a :: t, h => by
    rw [List.dropWhile_cons_of_pos (h a List.mem_cons_self)]
    exact dropWhile_all p t (fun c hc => h c (List.mem_cons_of_mem _ hc))
theorem trim_alpha (v : List UInt8) : decide (Lib.trimS v alpha = []) = v.all (fun c => decide (c ∈ alpha)) := by
  rw [Bool.eq_iff_iff, decide_eq_true_eq, List.all_eq_true]
  constructor
  · intro h c hc
    exact decide_eq_true (trim_none v alpha h c hc)
  · intro h
    have : Lib.trimRightS v alpha = [] := by
      unfold Lib.trimRightS
      rw [dropWhile_all _ v.reverse (fun c hc => by
        have := h c (List.mem_reverse.1 hc)
        simpa using this)]
      rfl
    unfold Lib.trimS
    rw [this]
    rfl
theorem safe_l0 (v : ByteArray) (hs : v.size < 4294967281) : ∀ (n i k : Nat), v.size - i = n → i ≤ v.size → n + 1 ≤ k → (v.data.toList.take i).all (fun x => decide (x ∈ alpha)) = true →
    muslinref17_Safe.l0 k v (i : Int) = some (v.data.toList.all (fun x => decide (x ∈ alpha))) := by
  intro n
  induction n with
  | zero =>
    intro i k hn hi hk ha
    obtain ⟨m, rfl⟩ : ∃ m, k = m + 1 := ⟨k - 1, by omega⟩
    rw [List.take_of_length_le (by rw [← Lib.size_eq]; omega)] at ha
    simp only [muslinref17_Safe.l0]
    rw [if_neg (by omega), ha]
  | succ n ih =>
    intro i k hn hi hk ha
    obtain ⟨m, rfl⟩ : ∃ m, k = m + 1 := ⟨k - 1, by omega⟩
    have W := Lib.hid (show wrap64 ((i : Int) + 1) = ((i + 1 : Nat) : Int) by unfold wrap64; omega)
    obtain ⟨c, hd, hb⟩ := bt_drop v i (by omega)
    have HB := Lib.hid hb
    clear hb
    have hm := alpha_mem c
    have hgo : decide (c ∈ alpha) = true → muslinref17_Safe.l0 m v ((i + 1 : Nat) : Int) = some (v.data.toList.all (fun x => decide (x ∈ alpha))) := fun h => by
      refine ih (i + 1) m (by omega) (by omega) (by omega) (all_snoc ha (y := c) ?_ h)
      have := congrArg (fun l => l[0]?) hd
      simpa using this
    have hno : decide (c ∈ alpha) = false → v.data.toList.all (fun x => decide (x ∈ alpha)) = false := fun h => by
      rw [List.all_eq_false]
      exact ⟨c, by rw [← List.take_append_drop i v.data.toList, hd]; simp, by simpa using h⟩
    have cc : ∀ n : Nat, n < 256 → ((c.toNat : Int) = (n : Int) ↔ c = UInt8.ofNat n) := fun n hn => u8_eq_int c n hn
    simp only [muslinref17_Safe.l0, HB.out, letter_f, digit_f, Option.bind_some, W.out]
    rw [if_pos (by omega), if_pos (by omega)]
    by_cases h1 : c = 32
    · rw [if_pos (show (c.toNat : Int) = 32 from (cc 32 (by decide)).2 h1)]; exact hgo (by rw [hm, h1]; rfl)
    rw [if_neg (show ¬ (c.toNat : Int) = 32 from fun h => h1 ((cc 32 (by decide)).1 h))]
    by_cases h2 : c = 35
    · rw [if_pos (show (c.toNat : Int) = 35 from (cc 35 (by decide)).2 h2)]; exact hgo (by rw [hm, h2]; rfl)
    rw [if_neg (show ¬ (c.toNat : Int) = 35 from fun h => h2 ((cc 35 (by decide)).1 h))]
    by_cases h3 : c = 46
    · rw [if_pos (show (c.toNat : Int) = 46 from (cc 46 (by decide)).2 h3)]; exact hgo (by rw [hm, h3]; rfl)
    rw [if_neg (show ¬ (c.toNat : Int) = 46 from fun h => h3 ((cc 46 (by decide)).1 h))]
    by_cases h4 : c = 37
    · rw [if_pos (show (c.toNat : Int) = 37 from (cc 37 (by decide)).2 h4)]; exact hgo (by rw [hm, h4]; rfl)
    rw [if_neg (show ¬ (c.toNat : Int) = 37 from fun h => h4 ((cc 37 (by decide)).1 h))]
    by_cases h5 : c = 44
    · rw [if_pos (show (c.toNat : Int) = 44 from (cc 44 (by decide)).2 h5)]; exact hgo (by rw [hm, h5]; rfl)
    rw [if_neg (show ¬ (c.toNat : Int) = 44 from fun h => h5 ((cc 44 (by decide)).1 h))]
    by_cases h6 : c = 45
    · rw [if_pos (show (c.toNat : Int) = 45 from (cc 45 (by decide)).2 h6)]; exact hgo (by rw [hm, h6]; rfl)
    rw [if_neg (show ¬ (c.toNat : Int) = 45 from fun h => h6 ((cc 45 (by decide)).1 h))]
    by_cases h7 : c = 43
    · rw [if_pos (show (c.toNat : Int) = 43 from (cc 43 (by decide)).2 h7)]; exact hgo (by rw [hm, h7]; rfl)
    rw [if_neg (show ¬ (c.toNat : Int) = 43 from fun h => h7 ((cc 43 (by decide)).1 h))]
    by_cases h8 : c = 33
    · rw [if_pos (show (c.toNat : Int) = 33 from (cc 33 (by decide)).2 h8)]; exact hgo (by rw [hm, h8]; rfl)
    rw [if_neg (show ¬ (c.toNat : Int) = 33 from fun h => h8 ((cc 33 (by decide)).1 h))]
    by_cases h9 : letterB c = true
    · rw [if_pos h9]; exact hgo (by rw [hm, h9]; simp)
    rw [if_neg h9]
    by_cases h10 : digitB c = true
    · rw [if_pos h10]; exact hgo (by rw [hm, h10]; simp)
    rw [if_neg h10, hno (by rw [hm]; simp [h1, h2, h3, h4, h5, h6, h7, h8, h9, h10])]
theorem safe_j0 (v : ByteArray) (hs : v.size < 4294967281) (k : Nat) (hk : v.size + 3 ≤ k) : muslinref17_Safe.j0 k v = some (decide (¬ v.data.toList = []) && (decide (v.data.toList.length ≤ 100) && decide (Lib.trimS v.data.toList alpha = []))) := by
  obtain ⟨m, rfl⟩ : ∃ m, k = m + 2 := ⟨k - 2, by omega⟩
  have hll := Lib.size_eq v
  have h0 := safe_l0 v hs v.size 0 m rfl (Nat.zero_le _) (by omega) rfl
  rw [show ((0 : Nat) : Int) = 0 from rfl] at h0
  simp only [muslinref17_Safe.j0, muslinref17_Safe.j1, h0]
  rw [trim_alpha]
  by_cases h1 : v.data.toList = []
  · have hz : v.size = 0 := by rw [hll, h1]; rfl
    rw [if_pos (by omega), if_pos trivial, decide_eq_false (fun h => h h1)]
    rfl
  · have hz : 0 < v.size := by rw [hll]; exact List.length_pos_iff.2 h1
    rw [if_neg (by omega), decide_eq_true h1, Bool.true_and, ← hll]
    by_cases h2 : v.size ≤ 100
    · rw [if_neg (by rw [decide_eq_true_eq]; omega), decide_eq_true h2, Bool.true_and]
    · rw [if_pos (by rw [decide_eq_true_eq]; omega), decide_eq_false h2, Bool.false_and]
set_option maxHeartbeats 3200000 in
set_option maxRecDepth 100000 in
/-- The document's Safe. -/
theorem ref_safe (n v : ByteArray) (hs : v.size < 4294967281) (k : Nat) (hk : v.size + 3 ≤ k) : muslinref17_Safe.f k n v = some (safeF n.data.toList v.data.toList) := by
  have hj := safe_j0 v hs k hk
  unfold safeF
  obtain ⟨R, hR⟩ : ∃ R, (decide (¬ v.data.toList = []) && (decide (v.data.toList.length ≤ 100) && decide (Lib.trimS v.data.toList alpha = []))) = R := ⟨_, rfl⟩
  rw [hR] at hj ⊢
  unfold muslinref17_Safe.f
  rw [hj, ByteArray.toList_eq]
  generalize n.data.toList = l
  by_cases h : l ∈ cssNames
  · rw [decide_eq_true h, Bool.true_and]
    simp only [cssNames, List.mem_cons, List.not_mem_nil, or_false] at h
    rcases h with rfl | rfl | rfl | rfl | rfl | rfl | rfl | rfl | rfl | rfl | rfl | rfl | rfl | rfl | rfl | rfl | rfl | rfl | rfl | rfl | rfl | rfl | rfl | rfl | rfl | rfl | rfl | rfl | rfl | rfl | rfl | rfl | rfl | rfl | rfl | rfl | rfl | rfl <;> simp
  · rw [decide_eq_false h, Bool.false_and]
    simp only [cssNames, List.mem_cons, List.not_mem_nil, or_false, not_or] at h
    simp only [h, if_false]
theorem mkB_join (a b : List UInt8) : mkB a ++ mkB b = mkB (a ++ b) := by
  have h := str_join a b
  injection h
def stepF (out : List UInt8) (d : List UInt8 × List UInt8) : List UInt8 := if out = [] then lineF d else out ++ [59, 32] ++ lineF d
/-- Whether a later declaration that stays bears the same name. -/
def againF (d : List UInt8 × List UInt8) (r : List (List UInt8 × List UInt8)) : Bool := r.any fun e => decide (e.1 = d.1) && safeF e.1 e.2
def nextF (b : Bool) (out : List UInt8) (d : List UInt8 × List UInt8) (r : List (List UInt8 × List UInt8)) : List UInt8 := if b = true ∧ againF d r = false then stepF out d else out
theorem rd_63 (ds : List (List UInt8 × List UInt8)) (i : Nat) (d : List UInt8 × List UInt8) (h : ds[i]? = some d) : rd_T63 (ds.map mk63) (i : Int) = mk63 d := by
  show (ds.map mk63).getD (i : Int).toNat z63 = _
  rw [List.getD_eq_getElem?_getD, Int.toNat_natCast, List.getElem?_map, h]
  rfl
theorem cc_put (out : List UInt8) (d : List UInt8 × List UInt8) (h : out = []) : ((mkB out ++ mkB d.1) ++ (⟨#[58, 32]⟩ : ByteArray)) ++ mkB d.2 = mkB (stepF out d) := by
  have e : (⟨#[58, 32]⟩ : ByteArray) = mkB [58, 32] := rfl
  rw [e, mkB_join, mkB_join, mkB_join]
  unfold stepF lineF
  rw [if_pos h, h, List.nil_append]
theorem cc_put2 (out : List UInt8) (d : List UInt8 × List UInt8) (h : ¬ out = []) : (((mkB out ++ (⟨#[59, 32]⟩ : ByteArray)) ++ mkB d.1) ++ (⟨#[58, 32]⟩ : ByteArray)) ++ mkB d.2 = mkB (stepF out d) := by
  have e : (⟨#[58, 32]⟩ : ByteArray) = mkB [58, 32] := rfl
  have e2 : (⟨#[59, 32]⟩ : ByteArray) = mkB [59, 32] := rfl
  rw [e, e2, mkB_join, mkB_join, mkB_join, mkB_join]
  unfold stepF lineF
  rw [if_neg h]
  simp
set_option maxHeartbeats 800000 in
theorem cc_l1 (ds : List (List UInt8 × List UInt8)) (S : Nat) (hS : ∀ d ∈ ds, d.1.length ≤ S ∧ d.2.length ≤ S) (hS2 : S < 4294967281) (hl : ds.length < 4294967296) (out : List UInt8) (ho : out.length < 1152921504606846976) (i : Nat) (d : List UInt8 × List UInt8) (hd : ds[i]? = some d) (R : ByteArray) (K : Nat) (hK : S + 3 ≤ K) :
    ∀ (n j k : Nat) (b : Bool), ds.length - j = n → j ≤ ds.length → K + n + 1 ≤ k →
      (∀ k', K ≤ k' → muslinref17_Clean.l0 k' (ds.map mk63) (mkB (nextF b out d (ds.drop j))) ((i + 1 : Nat) : Int) = some R) →
      muslinref17_Clean.l1 k (ds.map mk63) (mkB out) (i : Int) b (j : Int) = some R := by
  have hil : i < ds.length := (List.getElem?_eq_some_iff.1 hd).1
  have W := Lib.hid (show wrap64 ((i : Int) + 1) = ((i + 1 : Nat) : Int) by unfold wrap64; omega)
  have hdm := hS d (List.mem_of_getElem? hd)
  have hrd := rd_63 ds i d hd
  intro n
  induction n with
  | zero =>
    intro j k b hn hj hk hR
    obtain ⟨m, rfl⟩ : ∃ m, k = m + 1 := ⟨k - 1, by omega⟩
    have hdr : ds.drop j = [] := List.drop_of_length_le (by omega)
    have h0 := hR m (by omega)
    rw [hdr] at h0
    simp only [muslinref17_Clean.l1, hrd]
    rw [if_neg (by rw [List.length_map]; omega)]
    cases b with
    | false =>
      rw [if_neg (by decide), W.out]
      exact h0
    | true =>
      have e0 : nextF true out d [] = stepF out d := if_pos ⟨rfl, rfl⟩
      rw [e0] at h0
      rw [if_pos rfl, ByteArray.toList_eq, mkB_list]
      have z1 : (mkB d.1).size = d.1.length := mkB_size _
      have z2 : (mkB d.2).size = d.2.length := mkB_size _
      have z3 : (mkB out).size = out.length := mkB_size _
      by_cases hz : out = []
      · rw [if_pos hz, if_pos (by omega), if_pos (by rw [List.length_map]; omega)]
        show (if (mkB out).size + (mkB d.1).size ≤ 9223372036854775807 then _ else _) = _
        rw [if_pos (by omega), if_pos (by show (mkB out ++ mkB d.1).size + 2 ≤ _; rw [ByteArray.size_append]; omega), if_pos (by show ((mkB out ++ mkB d.1) ++ (⟨#[58, 32]⟩ : ByteArray)).size + (mkB d.2).size ≤ _; rw [ByteArray.size_append, ByteArray.size_append, lit2a]; omega), W.out]
        show muslinref17_Clean.l0 m (ds.map mk63) (((mkB out ++ mkB d.1) ++ (⟨#[58, 32]⟩ : ByteArray)) ++ mkB d.2) _ = _
        rw [cc_put out d hz]
        exact h0
      · rw [if_neg hz, if_pos (by omega), if_pos (by omega), if_pos (by rw [List.length_map]; omega)]
        show (if (mkB out ++ (⟨#[59, 32]⟩ : ByteArray)).size + (mkB d.1).size ≤ 9223372036854775807 then _ else _) = _
        rw [if_pos (by rw [ByteArray.size_append, lit2b]; omega), if_pos (by show ((mkB out ++ (⟨#[59, 32]⟩ : ByteArray)) ++ mkB d.1).size + 2 ≤ _; rw [ByteArray.size_append, ByteArray.size_append, lit2b]; omega), if_pos (by show (((mkB out ++ (⟨#[59, 32]⟩ : ByteArray)) ++ mkB d.1) ++ (⟨#[58, 32]⟩ : ByteArray)).size + (mkB d.2).size ≤ _; rw [ByteArray.size_append, ByteArray.size_append, ByteArray.size_append, lit2a, lit2b]; omega), W.out]
        show muslinref17_Clean.l0 m (ds.map mk63) ((((mkB out ++ (⟨#[59, 32]⟩ : ByteArray)) ++ mkB d.1) ++ (⟨#[58, 32]⟩ : ByteArray)) ++ mkB d.2) _ = _
        rw [cc_put2 out d hz]
        exact h0
  | succ n ih =>
    intro j k b hn hj hk hR
    obtain ⟨m, rfl⟩ : ∃ m, k = m + 1 := ⟨k - 1, by omega⟩
    have hjl : j < ds.length := by omega
    have W2 := Lib.hid (show wrap64 ((j : Int) + 1) = ((j + 1 : Nat) : Int) by unfold wrap64; omega)
    have hdj : ds.drop j = ds[j] :: ds.drop (j + 1) := List.drop_eq_getElem_cons hjl
    have hej : ds[j]? = some ds[j] := List.getElem?_eq_getElem hjl
    generalize ds[j] = e at hdj hej
    have hem := hS e (List.mem_of_getElem? hej)
    have hrj := rd_63 ds j e hej
    have hsafe : muslinref17_Safe.f m (mkB e.1) (mkB e.2) = some (safeF e.1 e.2) := by
      have := ref_safe (mkB e.1) (mkB e.2) (by rw [mkB_size]; omega) m (by rw [mkB_size]; omega)
      rw [mkB_list, mkB_list] at this
      exact this
    rw [hdj] at hR
    simp only [muslinref17_Clean.l1, hrd, hrj]
    rw [if_pos (by rw [List.length_map]; omega), if_pos (by omega), if_pos (by omega), if_pos (by rw [List.length_map]; omega)]
    show (if (mkB e.1).toList = (mkB d.1).toList then (muslinref17_Safe.f m (mkB e.1) (mkB e.2)).bind _ else _) = _
    rw [hsafe, Option.bind_some, W2.out, ByteArray.toList_eq, ByteArray.toList_eq, mkB_list, mkB_list]
    by_cases h1 : e.1 = d.1
    · rw [if_pos h1]
      by_cases h2 : safeF e.1 e.2 = true
      · rw [if_pos h2]
        refine ih (j + 1) m false (by omega) (by omega) (by omega) (fun k' hk' => ?_)
        have h0 := hR k' hk'
        have ea : againF d (e :: ds.drop (j + 1)) = true := by
          unfold againF
          rw [List.any_cons, decide_eq_true h1, h2]
          rfl
        have en : nextF b out d (e :: ds.drop (j + 1)) = nextF false out d (ds.drop (j + 1)) := by
          unfold nextF
          rw [ea, if_neg (fun h => absurd h.2 (by decide)), if_neg (fun h => absurd h.1 (by decide))]
        rw [en] at h0
        exact h0
      · rw [if_neg h2]
        refine ih (j + 1) m b (by omega) (by omega) (by omega) (fun k' hk' => ?_)
        have h0 := hR k' hk'
        have ea : againF d (e :: ds.drop (j + 1)) = againF d (ds.drop (j + 1)) := by
          unfold againF
          rw [List.any_cons, Bool.not_eq_true] at *
          rw [h2, Bool.and_false, Bool.false_or]
        have en : nextF b out d (e :: ds.drop (j + 1)) = nextF b out d (ds.drop (j + 1)) := by
          unfold nextF
          rw [ea]
        rw [en] at h0
        exact h0
    · rw [if_neg h1]
      refine ih (j + 1) m b (by omega) (by omega) (by omega) (fun k' hk' => ?_)
      have h0 := hR k' hk'
      have ea : againF d (e :: ds.drop (j + 1)) = againF d (ds.drop (j + 1)) := by
        unfold againF
        rw [List.any_cons, decide_eq_false h1, Bool.false_and, Bool.false_or]
      have en : nextF b out d (e :: ds.drop (j + 1)) = nextF b out d (ds.drop (j + 1)) := by
        unfold nextF
        rw [ea]
      rw [en] at h0
      exact h0
theorem join_snoc (A : List (List UInt8)) (x sep : List UInt8) : Lib.join (A ++ [x]) sep = if A = [] then x else Lib.join A sep ++ sep ++ x := by
  cases A with
  | nil => rw [if_pos rfl, List.nil_append, Lib.join_one]
  | cons a r =>
    rw [if_neg (by simp), List.cons_append, Lib.join_cons, Lib.join_cons]
    unfold Lib.joinTail
    simp
theorem join_none (A : List (List UInt8)) (sep : List UInt8) (h : ∀ x ∈ A, x ≠ []) : Lib.join A sep = [] ↔ A = [] := by
  cases A with
  | nil => simp [Lib.join_nil]
  | cons a r =>
    rw [Lib.join_cons]
    constructor
    · intro h2
      exact absurd (List.append_eq_nil_iff.1 h2).1 (h a List.mem_cons_self)
    · intro h2; cases h2
theorem line_ne (d : List UInt8 × List UInt8) : lineF d ≠ [] := by unfold lineF; simp
theorem last_filter (d : List UInt8 × List UInt8) (r : List (List UInt8 × List UInt8)) : lastF ((d :: r).filter fun p => safeF p.1 p.2) = (if safeF d.1 d.2 = true ∧ againF d r = false then [d] else []) ++ lastF (r.filter fun p => safeF p.1 p.2) := by
  by_cases h : safeF d.1 d.2 = true
  · rw [List.filter_cons_of_pos (by simpa using h)]
    show (if (r.filter fun p => safeF p.1 p.2).any (fun e => decide (e.1 = d.1)) = true then [] else [d]) ++ _ = _
    have e : (r.filter fun p => safeF p.1 p.2).any (fun e => decide (e.1 = d.1)) = againF d r := by
      unfold againF
      rw [List.any_filter]
      congr 1
      funext e
      exact Bool.and_comm _ _
    rw [e]
    cases againF d r with
    | true => rw [if_pos rfl, if_neg (fun h => absurd h.2 (by decide))]
    | false => rw [if_neg (by decide), if_pos ⟨h, rfl⟩]
  · rw [List.filter_cons_of_neg (by simpa using h), if_neg (fun hh => h hh.1), List.nil_append]
theorem cc_l0 (ds : List (List UInt8 × List UInt8)) (S : Nat) (hS : ∀ d ∈ ds, d.1.length ≤ S ∧ d.2.length ≤ S) (hS2 : S < 4294967281) (hl : ds.length < 4294967296) : ∀ (n i k : Nat) (A : List (List UInt8)), ds.length - i = n → i ≤ ds.length → n * (ds.length + 3) + S + 4 ≤ k → (∀ x ∈ A, x ≠ []) → (Lib.join A [59, 32]).length ≤ i * 124 →
    muslinref17_Clean.l0 k (ds.map mk63) (mkB (Lib.join A [59, 32])) (i : Int) = some (mkB (Lib.join (A ++ (lastF ((ds.drop i).filter fun p => safeF p.1 p.2)).map lineF) [59, 32])) := by
  intro n
  induction n with
  | zero =>
    intro i k A hn hi hk hA hlen
    obtain ⟨m, rfl⟩ : ∃ m, k = m + 1 := ⟨k - 1, by omega⟩
    have hdr : ds.drop i = [] := List.drop_of_length_le (by omega)
    simp only [muslinref17_Clean.l0]
    rw [if_neg (by rw [List.length_map]; omega), hdr]
    simp [lastF]
  | succ n ih =>
    intro i k A hn hi hk hA hlen
    obtain ⟨m, rfl⟩ : ∃ m, k = m + 1 := ⟨k - 1, by omega⟩
    rw [Nat.succ_mul] at hk
    have hil : i < ds.length := by omega
    have W := Lib.hid (show wrap64 ((i : Int) + 1) = ((i + 1 : Nat) : Int) by unfold wrap64; omega)
    have hdi : ds.drop i = ds[i] :: ds.drop (i + 1) := List.drop_eq_getElem_cons hil
    have hei : ds[i]? = some ds[i] := List.getElem?_eq_getElem hil
    generalize ds[i] = d at hdi hei
    have hdm := hS d (List.mem_of_getElem? hei)
    have hsafe : muslinref17_Safe.f m (mkB d.1) (mkB d.2) = some (safeF d.1 d.2) := by
      have := ref_safe (mkB d.1) (mkB d.2) (by rw [mkB_size]; omega) m (by rw [mkB_size]; omega)
      rw [mkB_list, mkB_list] at this
      exact this
    simp only [muslinref17_Clean.l0, rd_63 ds i d hei]
    rw [if_pos (by rw [List.length_map]; omega), if_pos (by omega)]
    show (muslinref17_Safe.f m (mkB d.1) (mkB d.2)).bind _ = _
    rw [hsafe, Option.bind_some, W.out]
    refine cc_l1 ds S hS hS2 hl _ (by omega) i d hei _ (n * (ds.length + 3) + S + 4) (by omega) (ds.length - (i + 1)) (i + 1) m (safeF d.1 d.2) rfl (by omega) (by omega) (fun k' hk' => ?_)
    rw [hdi, last_filter]
    by_cases hc : safeF d.1 d.2 = true ∧ againF d (ds.drop (i + 1)) = false
    · have e1 : nextF (safeF d.1 d.2) (Lib.join A [59, 32]) d (ds.drop (i + 1)) = Lib.join (A ++ [lineF d]) [59, 32] := by
        unfold nextF stepF
        rw [if_pos hc, join_snoc]
        by_cases hz : A = []
        · rw [if_pos hz, if_pos ((join_none A _ hA).2 hz)]
        · rw [if_neg hz, if_neg (fun h => hz ((join_none A _ hA).1 h))]
      have hsz := safeF_sizes hc.1
      have hjl : (Lib.join (A ++ [lineF d]) [59, 32]).length ≤ (i + 1) * 124 := by
        rw [join_snoc]
        have : (lineF d).length ≤ 122 := by
          unfold lineF
          simp only [List.length_append, List.length_cons, List.length_nil]
          omega
        split
        · omega
        · simp only [List.length_append, List.length_cons, List.length_nil]
          omega
      rw [e1, if_pos hc, List.map_append, List.map_cons, List.map_nil, ← List.append_assoc]
      exact ih (i + 1) k' (A ++ [lineF d]) (by omega) (by omega) hk' (fun x hx => by
        rcases List.mem_append.1 hx with h | h
        · exact hA x h
        · rw [List.mem_singleton.1 h]; exact line_ne d) hjl
    · have e1 : nextF (safeF d.1 d.2) (Lib.join A [59, 32]) d (ds.drop (i + 1)) = Lib.join A [59, 32] := if_neg hc
      rw [e1, if_neg hc, List.nil_append]
      exact ih (i + 1) k' A (by omega) (by omega) hk' hA (by omega)
theorem decl_len (l : List UInt8) (d : List UInt8 × List UInt8) (h : d ∈ declF l) : d.1.length ≤ l.length ∧ d.2.length ≤ l.length := by
  unfold declF at h
  split at h
  · cases h
  · rw [List.mem_singleton] at h
    subst h
    have hc := cut_le l [58]
    have h1 := trimS_len (Lib.cut l [58]).1 ws5
    have h2 := trimS_len (Lib.cut l [58]).2.1 ws5
    constructor
    · show (declN l).length ≤ _
      unfold declN
      rw [List.length_map]
      omega
    · show (declV l).length ≤ _
      unfold declV
      omega
theorem decls_size (l : List UInt8) : ∀ d ∈ declsF l, d.1.length ≤ l.length ∧ d.2.length ≤ l.length := by
  intro d hd
  rw [decls_pieces _ l rfl] at hd
  obtain ⟨p, hp, hdp⟩ := List.mem_flatMap.1 hd
  have h1 := pieces_size _ l rfl p hp
  have h2 := decl_len p d hdp
  omega
theorem decls_count (l : List UInt8) : (declsF l).length ≤ l.length + 1 := by
  rw [decls_pieces _ l rfl]
  have h1 := pieces_len _ l rfl
  have : ∀ ps : List (List UInt8), (ps.flatMap declF).length ≤ ps.length := by
    intro ps
    induction ps with
    | nil => simp
    | cons p ps ih =>
      rw [List.flatMap_cons, List.length_append, List.length_cons]
      have : (declF p).length ≤ 1 := by unfold declF; split <;> simp
      omega
  exact Nat.le_trans (this _) h1
/-- How many rounds the styles take. -/
def cssK (n : Nat) : Nat := (n + 1) * (n + 4) + 5 * n + 9
/-- The document's Clean of styles. -/
theorem ref_css (s : ByteArray) (hs : s.size < 4294967281) (k : Nat) (hk : cssK s.size ≤ k) : muslinref17_Clean.f k s = some (mkB (cssF s.data.toList)) := by
  unfold cssK at hk
  unfold muslinref17_Clean.f
  have hll := Lib.size_eq s
  have h1 := decls_count s.data.toList
  have h2 := decls_size s.data.toList
  rw [← hll] at h1 h2
  have hmul : (s.size + 1) * (s.size + 3) ≤ (s.size + 1) * (s.size + 4) := Nat.mul_le_mul_left _ (by omega)
  have hmul2 : (declsF s.data.toList).length * ((declsF s.data.toList).length + 3) ≤ (s.size + 1) * (s.size + 4) := Nat.mul_le_mul h1 (by omega)
  rw [ref_cut s hs k (by omega), Option.bind_some]
  have := cc_l0 (declsF s.data.toList) s.size h2 hs (by omega) (declsF s.data.toList).length 0 k [] rfl (Nat.zero_le _) (by omega) (fun x hx => by cases hx) (by simp [Lib.join_nil])
  rw [List.drop_zero, List.nil_append] at this
  exact this
end Go.Proofs.YtchooidhieaphaaGreatDoor
