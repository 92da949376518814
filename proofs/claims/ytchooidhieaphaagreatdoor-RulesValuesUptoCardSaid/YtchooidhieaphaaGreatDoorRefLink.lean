/- The document's Clean, Scheme, Kind and Blocked say what cleanF, schemeF, kindF and blockF say: plain functions, no program. Condition: texts below 2^32 - 96 bytes. -/
import Derived.Test.YtchooidhieaphaaGreatDoorQBlocked
import Derived.Test.YtchooidhieaphaaGreatDoorCssAgain
set_option linter.unusedVariables false
set_option linter.unusedSimpArgs false
namespace Go.Proofs.YtchooidhieaphaaGreatDoor
open Go.RowKit Go.Proofs.YtchooidhieaphaaGreatDoorW.PrintWords PRulesValues PQ
theorem blank_iff (c : UInt8) : blanks.contains c = decide (c.toNat ≤ 32) := by
  have h : ∀ n : Fin 256, blanks.contains (UInt8.ofNat n.val) = decide (n.val ≤ 32) := by decide +kernel
  have := h ⟨c.toNat, c.toNat_lt⟩
  simpa using this
theorem rdrop_snoc (p : UInt8 → Bool) (l : List UInt8) (c : UInt8) : ((l ++ [c]).reverse.dropWhile p).reverse = if p c = true then (l.reverse.dropWhile p).reverse else l ++ [c] := by
  rw [List.reverse_append]
  show ((c :: l.reverse).dropWhile p).reverse = _
  by_cases h : p c = true
  · rw [List.dropWhile_cons_of_pos h, if_pos h]
  · rw [List.dropWhile_cons_of_neg h, if_neg h]; simp
theorem rdrop_cons (p : UInt8 → Bool) (a : UInt8) : ∀ (t : List UInt8), ((a :: t).reverse.dropWhile p).reverse = if (t.reverse.dropWhile p).reverse = [] ∧ p a = true then [] else a :: (t.reverse.dropWhile p).reverse := by
  intro t
  rw [List.reverse_cons, List.dropWhile_append]
  by_cases h : t.reverse.dropWhile p = []
  · rw [h]
    by_cases ha : p a = true
    · simp [ha]
    · simp [ha]
  · have h2 : (List.dropWhile p t.reverse).isEmpty = false := by
      cases hq : List.dropWhile p t.reverse with
      | nil => exact absurd hq h
      | cons x y => rfl
    rw [h2]
    have h3 : ¬ ((List.dropWhile p t.reverse).reverse = [] ∧ p a = true) := fun hh => h (List.reverse_eq_nil_iff.1 hh.1)
    rw [if_neg h3]
    simp
theorem drop_swap (p : UInt8 → Bool) : ∀ (l : List UInt8), ((l.reverse.dropWhile p).reverse).dropWhile p = ((l.dropWhile p).reverse.dropWhile p).reverse
  | [] => rfl
  | a :: t => by
    have ih := drop_swap p t
    rw [rdrop_cons]
    by_cases ha : p a = true
    · rw [List.dropWhile_cons_of_pos ha, ← ih]
      by_cases h : (t.reverse.dropWhile p).reverse = []
      · rw [if_pos ⟨h, ha⟩, h]
      · rw [if_neg (fun hh => h hh.1), List.dropWhile_cons_of_pos ha]
    · rw [if_neg (fun hh => ha hh.2), List.dropWhile_cons_of_neg ha, List.dropWhile_cons_of_neg ha, rdrop_cons, if_neg (fun hh => ha hh.2)]
def trimA (l : List UInt8) : List UInt8 := (l.reverse.dropWhile fun c => blanks.contains c).reverse
theorem trim_two (l : List UInt8) : Lib.trimS l blanks = trimA (l.dropWhile fun c => blanks.contains c) := drop_swap _ l
theorem size_take (s : ByteArray) (k : Nat) (h : k ≤ s.size) : (s.extract 0 k).size = k := by
  rw [Lib.size_eq, extract_take s k h, List.length_take, ← Lib.size_eq]; omega
theorem size_drop (s : ByteArray) (k : Nat) : (s.extract k s.size).size = s.size - k := by
  rw [Lib.size_eq, extract_drop', List.length_drop, ← Lib.size_eq]
theorem rc_l2 (s : ByteArray) (hs : s.size < 4294967296) : ∀ (n i k : Nat) (acc : List UInt8), s.size - i = n → i ≤ s.size → n + 1 ≤ k → acc.length ≤ i →
    muslinref16_Clean.l2 k s (acc.map fun c => (c.toNat : Int)) (i : Int) = some ⟨(acc ++ cutF (s.data.toList.drop i)).toArray⟩ := by
  intro n
  induction n with
  | zero =>
    intro i k acc hn hi hk ha
    obtain ⟨m, rfl⟩ : ∃ m, k = m + 1 := ⟨k - 1, by omega⟩
    simp only [muslinref16_Clean.l2]
    rw [if_neg (by omega), strOfNums_bytes, List.drop_of_length_le (by rw [← Lib.size_eq]; omega)]
    simp [cutF]
  | succ n ih =>
    intro i k acc hn hi hk ha
    obtain ⟨m, rfl⟩ : ∃ m, k = m + 1 := ⟨k - 1, by omega⟩
    obtain ⟨c, hd, hb⟩ := bt_drop s i (by omega)
    have hw : wrap64 ((i : Int) + 1) = ((i + 1 : Nat) : Int) := by unfold wrap64; omega
    have c9 := u8_eq_int c 9 (by decide)
    have c10 := u8_eq_int c 10 (by decide)
    have c13 := u8_eq_int c 13 (by decide)
    simp only [muslinref16_Clean.l2]
    rw [if_pos (by omega), if_pos (by omega), hb, hw, hd]
    by_cases hk : keepB c = true
    · have hn9 : ¬ (c.toNat : Int) = 9 := fun h => by have := c9.1 h; subst this; simp [keepB] at hk
      have hn10 : ¬ (c.toNat : Int) = 10 := fun h => by have := c10.1 h; subst this; simp [keepB] at hk
      have hn13 : ¬ (c.toNat : Int) = 13 := fun h => by have := c13.1 h; subst this; simp [keepB] at hk
      rw [if_neg hn9, if_neg hn10, if_neg hn13, if_pos (by rw [List.length_map]; omega)]
      have := ih (i + 1) m (acc ++ [c]) (by omega) (by omega) (by omega) (by simp; omega)
      rw [List.map_append] at this
      simp only [List.map_cons, List.map_nil] at this
      rw [this]
      unfold cutF
      rw [List.filter_cons_of_pos hk]
      simp
    · have := ih (i + 1) m acc (by omega) (by omega) (by omega) (by omega)
      have hcut : cutF (c :: s.data.toList.drop (i + 1)) = cutF (s.data.toList.drop (i + 1)) := by
        unfold cutF
        rw [List.filter_cons_of_neg hk]
      rw [this, hcut]
      have h3 : c = 9 ∨ c = 10 ∨ c = 13 := by
        simp only [keepB, Bool.not_eq_true, Bool.not_eq_false', Bool.or_eq_true, beq_iff_eq] at hk
        rcases hk with (h | h) | h
        · exact .inl h
        · exact .inr (.inl h)
        · exact .inr (.inr h)
      rcases h3 with rfl | rfl | rfl <;> rfl
theorem rc_j3 (s : ByteArray) (hs : s.size < 4294967296) (k : Nat) (hk : s.size + 2 ≤ k) : muslinref16_Clean.j3 k s = some ⟨(cutF s.data.toList).toArray⟩ := by
  obtain ⟨m, rfl⟩ : ∃ m, k = m + 1 := ⟨k - 1, by omega⟩
  have := rc_l2 s hs s.size 0 m [] (by omega) (by omega) (by omega) (by simp)
  simp only [muslinref16_Clean.j3]
  rw [List.drop_zero] at this
  exact this
theorem rc_l1 : ∀ (n : Nat) (s : ByteArray) (k : Nat), s.size = n → n < 4294967296 → 2 * n + 3 ≤ k → muslinref16_Clean.l1 k s = some ⟨(cutF (trimA s.data.toList)).toArray⟩ := by
  intro n
  induction n with
  | zero =>
    intro s k hn hb hk
    obtain ⟨m, rfl⟩ : ∃ m, k = m + 1 := ⟨k - 1, by omega⟩
    simp only [muslinref16_Clean.l1]
    rw [if_neg (by omega), rc_j3 s (by omega) m (by omega)]
    have : s.data.toList = [] := List.length_eq_zero_iff.1 (by rw [← Lib.size_eq]; exact hn)
    rw [this]
    rfl
  | succ n ih =>
    intro s k hn hb hk
    obtain ⟨m, rfl⟩ : ∃ m, k = m + 1 := ⟨k - 1, by omega⟩
    obtain ⟨c, hd, hbt⟩ := bt_drop s n (by omega)
    have hw : wrap64 ((s.size : Int) - 1) = (n : Int) := by unfold wrap64; omega
    have hl : s.data.toList = (s.extract 0 n).data.toList ++ [c] := by
      rw [extract_take s n (by omega)]
      conv => lhs; rw [← List.take_append_drop n s.data.toList]
      rw [hd, List.drop_of_length_le (by rw [← Lib.size_eq]; omega)]
    have hz := size_take s n (by omega)
    simp only [muslinref16_Clean.l1, hw, hbt]
    rw [if_pos (by omega), if_pos (by omega), if_pos (by omega)]
    have hT : trimA s.data.toList = if blanks.contains c = true then trimA (s.extract 0 n).data.toList else s.data.toList := by
      unfold trimA
      rw [hl, rdrop_snoc]
    by_cases hc : blanks.contains c = true
    · rw [if_pos hc] at hT
      rw [blank_iff, decide_eq_true_eq] at hc
      rw [if_pos (by omega), if_pos (by omega), hT]
      exact ih _ m hz (by omega) (by omega)
    · rw [if_neg hc] at hT
      rw [blank_iff, decide_eq_true_eq] at hc
      rw [if_neg (by omega), hT]
      exact rc_j3 s (by omega) m (by omega)
theorem rc_j1 (s : ByteArray) (hs : s.size < 4294967296) (k : Nat) (hk : 2 * s.size + 4 ≤ k) : muslinref16_Clean.j1 k s = some ⟨(cutF (trimA s.data.toList)).toArray⟩ := by
  obtain ⟨m, rfl⟩ : ∃ m, k = m + 1 := ⟨k - 1, by omega⟩
  simp only [muslinref16_Clean.j1]
  exact rc_l1 s.size s m rfl hs (by omega)
theorem rc_l0 : ∀ (n : Nat) (s : ByteArray) (k : Nat), s.size = n → n < 4294967296 → 3 * n + 6 ≤ k → muslinref16_Clean.l0 k s = some ⟨(cutF (trimA (s.data.toList.dropWhile fun c => blanks.contains c))).toArray⟩ := by
  intro n
  induction n with
  | zero =>
    intro s k hn hb hk
    obtain ⟨m, rfl⟩ : ∃ m, k = m + 1 := ⟨k - 1, by omega⟩
    simp only [muslinref16_Clean.l0]
    rw [if_neg (by omega), rc_j1 s (by omega) m (by omega)]
    have : s.data.toList = [] := List.length_eq_zero_iff.1 (by rw [← Lib.size_eq]; exact hn)
    rw [this]
    rfl
  | succ n ih =>
    intro s k hn hb hk
    obtain ⟨m, rfl⟩ : ∃ m, k = m + 1 := ⟨k - 1, by omega⟩
    obtain ⟨c, hd, hbt⟩ := bt_drop s 0 (by omega)
    rw [List.drop_zero] at hd
    simp only [muslinref16_Clean.l0]
    rw [if_pos (by omega), if_pos (by omega)]
    rw [show bt s 0 = (c.toNat : Int) from hbt, hd]
    have hz := size_drop s 1
    by_cases hc : blanks.contains c = true
    · rw [List.dropWhile_cons_of_pos hc]
      rw [blank_iff, decide_eq_true_eq] at hc
      rw [if_pos (by omega), if_pos (by omega)]
      have := ih (s.extract 1 s.size) m (by omega) (by omega) (by omega)
      rw [extract_drop'] at this
      exact this
    · rw [List.dropWhile_cons_of_neg hc]
      rw [blank_iff, decide_eq_true_eq] at hc
      rw [if_neg (by omega), rc_j1 s (by omega) m (by omega), ← hd]
/-- The document's Clean. -/
theorem ref_clean (s : ByteArray) (hs : s.size < 4294967296) (k : Nat) (hk : 3 * s.size + 6 ≤ k) : muslinref16_Clean.f k s = some ⟨(cleanF s.data.toList).toArray⟩ := by
  unfold muslinref16_Clean.f cleanF
  rw [rc_l0 s.size s k rfl hs hk, trim_two]
theorem letter_f (c : UInt8) : muslinref03_Letter.f (c.toNat : Int) = some (letterB c) := by
  unfold muslinref03_Letter.f letterB lowB upperB
  by_cases h1 : 97 ≤ c.toNat
  · rw [if_pos (by omega)]
    by_cases h2 : c.toNat ≤ 122
    · rw [if_pos (by omega), decide_eq_true h1, decide_eq_true h2]; rfl
    · rw [if_neg (by omega), if_pos (by omega), decide_eq_false h2, decide_eq_true (show 65 ≤ c.toNat by omega)]
      congr 1
      rw [Bool.and_false, Bool.false_or, Bool.true_and, decide_eq_decide]
      omega
  · rw [if_neg (by omega), decide_eq_false h1, Bool.false_and, Bool.false_or]
    by_cases h2 : 65 ≤ c.toNat
    · rw [if_pos (by omega), decide_eq_true h2, Bool.true_and]
      congr 1
      rw [decide_eq_decide]
      omega
    · rw [if_neg (by omega), decide_eq_false h2]; rfl
theorem digit_f (c : UInt8) : muslinref03_Digit.f (c.toNat : Int) = some (digitB c) := by
  unfold muslinref03_Digit.f digitB
  by_cases h1 : 48 ≤ c.toNat
  · rw [if_pos (by omega), decide_eq_true h1, Bool.true_and]
    congr 1
    rw [decide_eq_decide]
    omega
  · rw [if_neg (by omega), decide_eq_false h1]; rfl
def schG (l : List UInt8) : List UInt8 × Bool := schemeOf (Lib.cut l [58]).1 (Lib.cut l [58]).2.2
theorem sch_bad (pre post : List UInt8) (c : UInt8) (hp : (58 : UInt8) ∉ pre) (hc : c ≠ 58) (h : schB c = false ∨ (pre = [] ∧ letterB c = false)) : schG (pre ++ c :: post) = ([], false) := by
  unfold schG
  apply scheme_no
  rintro ⟨hf, hne, hl, ha⟩
  have hcut := (cut_one (pre ++ c :: post) 58).1 hf
  generalize (Lib.cut (pre ++ c :: post) [58]).1 = n at *
  generalize (Lib.cut (pre ++ c :: post) [58]).2.1 = r at *
  obtain ⟨m, hm⟩ : ∃ m, n = pre ++ c :: m := by
    rcases List.append_eq_append_iff.1 hcut with ⟨xs, h1, h2⟩ | ⟨bs, h1, h2⟩
    · cases xs with
      | nil =>
        injection h2 with h2 _
        exact absurd h2 hc
      | cons a xs =>
        injection h2 with h2 _
        subst h2
        exact ⟨xs, h1⟩
    · cases bs with
      | nil =>
        injection h2 with h2 _
        exact absurd h2.symm hc
      | cons a xs =>
        injection h2 with h2 _
        subst h2
        exact absurd (by rw [h1]; simp) hp
  subst hm
  rcases h with h | ⟨rfl, h⟩
  · rw [List.all_append, List.all_cons, h] at ha
    simp at ha
  · simp [h] at hl
theorem sch_end (l : List UInt8) (h : (58 : UInt8) ∉ l) : schG l = ([], false) := by
  unfold schG
  apply scheme_no
  rintro ⟨hf, _⟩
  exact h (by rw [(cut_one l 58).1 hf]; simp)
theorem sch_colon (pre post : List UInt8) (hp : (58 : UInt8) ∉ pre) (ha : pre.all schB = true) (hh : pre = [] ∨ letterB (pre.headD 0) = true) : schG (pre ++ 58 :: post) = (pre.map smallB, decide (pre ≠ [])) := by
  unfold schG
  rw [cut_at pre post 58 hp]
  show schemeOf pre true = _
  unfold schemeOf
  by_cases he : pre = []
  · subst he; rfl
  · rw [if_pos ⟨rfl, he, hh.resolve_left he, ha⟩, decide_eq_true he]
theorem colon_not : ∀ (l : List UInt8), l.all schB = true → (58 : UInt8) ∉ l := by
  intro l h hm
  have := List.all_eq_true.1 h 58 hm
  revert this
  decide
theorem rs_l0 (s : ByteArray) (hs : s.size < 4294967281) : ∀ (n i k : Nat), s.size - i = n → i ≤ s.size → n + 2 ≤ k → (s.data.toList.take i).all schB = true → (i = 0 ∨ letterB (s.data.toList.headD 0) = true) →
    muslinref16_Scheme.l0 k s (i : Int) = some (⟨(schG s.data.toList).1.toArray⟩, (schG s.data.toList).2) := by
  intro n
  induction n with
  | zero =>
    intro i k hn hi hk ha hh
    obtain ⟨m, rfl⟩ : ∃ m, k = m + 1 := ⟨k - 1, by omega⟩
    rw [List.take_of_length_le (by rw [← Lib.size_eq]; omega)] at ha
    simp only [muslinref16_Scheme.l0]
    rw [if_neg (by omega), sch_end _ (colon_not _ ha)]
  | succ n ih =>
    intro i k hn hi hk ha hh
    obtain ⟨m, rfl⟩ : ∃ m, k = m + 1 := ⟨k - 1, by omega⟩
    obtain ⟨c, hd, hb⟩ := bt_drop s i (by omega)
    have hw : wrap64 ((i : Int) + 1) = ((i + 1 : Nat) : Int) := by unfold wrap64; omega
    have hL : s.data.toList = s.data.toList.take i ++ c :: s.data.toList.drop (i + 1) := by rw [← hd, List.take_append_drop]
    have htl : (s.data.toList.take i).length = i := by rw [List.length_take, ← Lib.size_eq]; omega
    have hno := colon_not _ ha
    have hnext : schB c = true → (i = 0 → letterB c = true) → muslinref16_Scheme.l0 m s ((i + 1 : Nat) : Int) = some (⟨(schG s.data.toList).1.toArray⟩, (schG s.data.toList).2) := by
      intro h1 h2
      have e1 : s.data.toList.take (i + 1) = s.data.toList.take i ++ [c] := by
        rw [List.take_succ_eq_append_getElem (by rw [← Lib.size_eq]; omega)]
        congr 2
        have := congrArg (fun l => l.headD 0) hd
        rw [List.drop_eq_getElem_cons (by rw [← Lib.size_eq]; omega)] at this
        simpa using this
      refine ih (i + 1) m (by omega) (by omega) (by omega) ?_ (.inr ?_)
      · rw [e1, List.all_append, ha]; simp [h1]
      · rcases hh with rfl | hh
        · rw [hL]; simpa using h2 rfl
        · exact hh
    have hbad : c ≠ 58 → (schB c = false ∨ (s.data.toList.take i = [] ∧ letterB c = false)) → some ((⟨#[]⟩ : ByteArray), false) = some (⟨(schG s.data.toList).1.toArray⟩, (schG s.data.toList).2) := by
      intro h1 h2
      rw [hL, sch_bad _ _ _ hno h1 h2]
    have c58 : (c.toNat : Int) = 58 ↔ c = 58 := u8_eq_int c 58 (by decide)
    have c43 : (c.toNat : Int) = 43 ↔ c = 43 := u8_eq_int c 43 (by decide)
    have c45 : (c.toNat : Int) = 45 ↔ c = 45 := u8_eq_int c 45 (by decide)
    have c46 : (c.toNat : Int) = 46 ↔ c = 46 := u8_eq_int c 46 (by decide)
    simp only [muslinref16_Scheme.l0, hb, hw, letter_f, digit_f, Option.bind_some]
    rw [if_pos (by omega), if_pos (by omega)]
    by_cases e : c = 58
    · subst e
      rw [if_pos (by rfl), if_pos (by omega)]
      unfold muslinref03_Small.f
      rw [Int.toNat_natCast, if_pos (by rw [size_take s i (by omega)]; omega), extract_take s i (by omega)]
      have hc := sch_colon (s.data.toList.take i) (s.data.toList.drop (i + 1)) hno ha (by
        cases i with
        | zero => left; simp
        | succ i =>
          right
          have hh2 := hh.resolve_left (by omega)
          cases hq : s.data.toList with
          | nil => rw [hq] at hL; simp at hL
          | cons a q =>
            rw [hq] at hh2
            exact hh2)
      rw [← hL] at hc
      rw [hc, Option.bind_some]
      congr 2
      rw [decide_eq_decide]
      constructor
      · intro h h0
        rw [h0] at htl
        simp at htl
        omega
      · intro h
        have : i ≠ 0 := fun h0 => h (by rw [h0]; rfl)
        omega
    · rw [if_neg (fun h => e (c58.1 h))]
      by_cases hl : letterB c = true
      · rw [if_pos hl]
        exact hnext (schB_letter hl) (fun _ => hl)
      · rw [if_neg hl]
        by_cases h0 : i = 0
        · rw [if_pos (by omega)]
          exact hbad e (.inr ⟨by rw [h0]; rfl, by simpa using hl⟩)
        · rw [if_neg (by omega)]
          by_cases hdg : digitB c = true
          · rw [if_pos hdg]
            exact hnext (by simp [schB, hdg]) (fun h => absurd h h0)
          · rw [if_neg hdg]
            by_cases e1 : c = 43
            · rw [if_pos (c43.2 e1)]; exact hnext (by subst e1; decide) (fun h => absurd h h0)
            · rw [if_neg (fun h => e1 (c43.1 h))]
              by_cases e2 : c = 45
              · rw [if_pos (c45.2 e2)]; exact hnext (by subst e2; decide) (fun h => absurd h h0)
              · rw [if_neg (fun h => e2 (c45.1 h))]
                by_cases e3 : c = 46
                · rw [if_pos (c46.2 e3)]; exact hnext (by subst e3; decide) (fun h => absurd h h0)
                · rw [if_neg (fun h => e3 (c46.1 h))]
                  refine hbad e (.inl ?_)
                  rw [Bool.not_eq_true] at hl hdg
                  simp [schB, hl, hdg]
                  exact ⟨⟨e1, e2⟩, e3⟩
/-- The document's Scheme. -/
theorem ref_scheme (s : ByteArray) (hs : s.size < 4294967281) (k : Nat) (hk : 3 * s.size + 6 ≤ k) : muslinref16_Scheme.f k s = some (⟨(schemeF s.data.toList).1.toArray⟩, (schemeF s.data.toList).2) := by
  unfold muslinref16_Scheme.f
  rw [ref_clean s (by omega) k hk, Option.bind_some]
  have hl := cleanF_le s.data.toList
  rw [← Lib.size_eq] at hl
  have h := rs_l0 ⟨(cleanF s.data.toList).toArray⟩ (by rw [size_mk]; omega) _ 0 k rfl (Nat.zero_le _) (by rw [size_mk]; omega) rfl (.inl rfl)
  rw [mk_toList] at h
  exact h
theorem rk_j0 (n : ByteArray) (h : Bool) (k : Nat) (hk : 3 ≤ k) : muslinref16_Kind.j0 k n h = some (kindG n.data.toList true h) := by
  obtain ⟨m, rfl⟩ : ∃ m, k = m + 3 := ⟨k - 3, by omega⟩
  simp only [muslinref16_Kind.j0, muslinref16_Kind.j1, muslinref16_Kind.j2, ByteArray.toList_eq]
  unfold kindG
  rw [if_neg (show ¬ (true = false) by decide)]
  generalize n.data.toList = l
  by_cases h1 : l = [104, 116, 116, 112]
  · subst h1; cases h <;> decide
  · rw [if_neg h1, if_neg (show ¬ (l = [104, 116, 116, 112] ∧ h = true) from fun hh => h1 hh.1), if_neg (show ¬ (false = true) by decide)]
    by_cases h2 : l = [104, 116, 116, 112, 115]
    · subst h2; cases h <;> decide
    · rw [if_neg h2, if_neg (show ¬ (l = [104, 116, 116, 112, 115] ∧ h = true) from fun hh => h2 hh.1), if_neg (show ¬ (false = true) by decide)]
      by_cases h3 : l = [109, 97, 105, 108, 116, 111]
      · rw [if_pos h3, if_pos h3]
      · rw [if_neg h3, if_neg h3]
        by_cases h4 : l = [99, 105, 100]
        · rw [if_pos h4, if_pos h4]
        · rw [if_neg h4, if_neg h4]
theorem extract_mid (s : ByteArray) (a b : Nat) : (s.extract a b).data.toList = (s.data.toList.drop a).take (b - a) := by
  rw [ByteArray.data_extract, Array.toList_extract, List.extract_eq_take_drop]
theorem host_out (x : UInt8) : decide (Lib.indexByte [47, 63, 35, 92] x < 0) = decide (x ∉ ([47, 63, 35, 92] : List UInt8)) := by
  rw [decide_eq_decide]
  exact indexByte_lt _ _
theorem hostG_no (a b x : UInt8) (q : List UInt8) (h : ¬ (a = 47 ∧ b = 47)) : hostG (a :: b :: x :: q) = false := by
  unfold hostG
  split
  · rename_i he
    injection he with h1 h2
    injection h2 with h2 _
    exact absurd ⟨h1, h2⟩ h
  · rfl
theorem hostG_short (r : List UInt8) (h : r.length ≤ 2) : hostG r = false := by
  unfold hostG
  split
  · simp at h
  · rfl
theorem scheme_len (v : List UInt8) (h : (schemeF v).2 = true) : (schemeF v).1.length = (Lib.cut (cleanF v) [58]).1.length ∧ (Lib.cut (cleanF v) [58]).2.2 = true := by
  unfold schemeF schemeOf at h ⊢
  split at h
  · rename_i hh
    rw [if_pos hh]
    exact ⟨List.length_map _, hh.1⟩
  · cases h
/-- The document's Kind. -/
theorem ref_kind (s : ByteArray) (hs : s.size < 4294967281) (k : Nat) (hk : 3 * s.size + 6 ≤ k) : muslinref16_Kind.f k s = some (kindF s.data.toList) := by
  unfold muslinref16_Kind.f
  rw [ref_scheme s hs k hk, ref_clean s (by omega) k hk, Option.bind_some]
  have hcl := cleanF_le s.data.toList
  rw [← Lib.size_eq] at hcl
  show (if (schemeF s.data.toList).2 = true then _ else some 0) = some (kindG (schemeF s.data.toList).1 (schemeF s.data.toList).2 (hostedF (cleanF s.data.toList)))
  by_cases hf : (schemeF s.data.toList).2 = true
  · obtain ⟨hlen, hcf⟩ := scheme_len _ hf
    have hcut := (cut_one _ 58).1 hcf
    rw [if_pos hf, hf, Option.bind_some]
    unfold hostedF
    generalize cleanF s.data.toList = c at *
    generalize (schemeF s.data.toList).1 = n at *
    generalize (Lib.cut c [58]).1 = nm at *
    generalize (Lib.cut c [58]).2.1 = r at *
    clear hcf hf
    simp only [size_mk]
    have hcs : c.length = n.length + 1 + r.length := by rw [hcut, List.length_append, List.length_cons]; omega
    have w1 : wrap64 ((n.length : Int) + 1) = ((n.length + 1 : Nat) : Int) := by unfold wrap64; omega
    have w3 : wrap64 ((n.length : Int) + 3) = ((n.length + 3 : Nat) : Int) := by unfold wrap64; omega
    rw [w1, w3]
    have hj := fun h => rk_j0 ⟨n.toArray⟩ h k (by omega)
    rw [mk_toList] at hj
    simp only [hj]
    by_cases hr : r.length ≤ 2
    · rw [if_neg (by omega), hostG_short r hr]
    · rw [if_pos (by omega), if_pos (by omega), if_pos (by omega), if_pos (by omega)]
      match r, hr with
      | [], hr => exact absurd (by simp) hr
      | [_], hr => exact absurd (by simp) hr
      | [_, _], hr => exact absurd (by simp) hr
      | a :: b :: x :: q, _ =>
        have hex : ((⟨c.toArray⟩ : ByteArray).extract (((n.length + 1 : Nat) : Int)).toNat (((n.length + 3 : Nat) : Int)).toNat).toList = [a, b] := by
          rw [ByteArray.toList_eq, extract_mid, mk_toList, Int.toNat_natCast, Int.toNat_natCast, hcut, show nm ++ 58 :: a :: b :: x :: q = (nm ++ [58]) ++ a :: b :: x :: q by simp, List.drop_left' (by rw [List.length_append, ← hlen]; rfl), show n.length + 3 - (n.length + 1) = 2 by omega]
          rfl
        have hbt : bt (⟨c.toArray⟩ : ByteArray) ((n.length + 3 : Nat) : Int) = (x.toNat : Int) := by
          obtain ⟨y, hy, hb⟩ := bt_get (⟨c.toArray⟩ : ByteArray) (n.length + 3) (by rw [size_mk, hcs]; simp; omega)
          rw [mk_toList, hcut, List.getElem?_append_right (by omega), show n.length + 3 - nm.length = 3 by omega] at hy
          have : x = y := by simpa using hy
          rw [this]; exact hb
        simp only [hbt]
        rw [hex]
        by_cases hab : a = 47 ∧ b = 47
        · obtain ⟨rfl, rfl⟩ := hab
          rw [if_pos rfl, if_pos (by omega), if_pos (by rw [hcs]; simp; omega)]
          have c47 : (x.toNat : Int) = 47 ↔ x = 47 := u8_eq_int x 47 (by decide)
          have c63 : (x.toNat : Int) = 63 ↔ x = 63 := u8_eq_int x 63 (by decide)
          have c35 : (x.toNat : Int) = 35 ↔ x = 35 := u8_eq_int x 35 (by decide)
          have c92 : (x.toNat : Int) = 92 ↔ x = 92 := u8_eq_int x 92 (by decide)
          show _ = some (kindG n true (decide (Lib.indexByte [47, 63, 35, 92] x < 0)))
          rw [host_out]
          by_cases e1 : x = 47
          · rw [if_pos (c47.2 e1), decide_eq_false (by simp [e1])]
          · rw [if_neg (fun h => e1 (c47.1 h))]
            by_cases e2 : x = 63
            · rw [if_pos (c63.2 e2), decide_eq_false (by simp [e2])]
            · rw [if_neg (fun h => e2 (c63.1 h))]
              by_cases e3 : x = 35
              · rw [if_pos (c35.2 e3), decide_eq_false (by simp [e3])]
              · rw [if_neg (fun h => e3 (c35.1 h))]
                congr 2
                by_cases e4 : x = 92
                · rw [decide_eq_false (by simp [e4]), e4]; rfl
                · rw [decide_eq_true (by simp [e1, e2, e3, e4])]
                  exact bne_iff_ne.2 (fun h => e4 (c92.1 h))
        · rw [if_neg (fun h => hab (by injection h with h1 h2; injection h2 with h2 _; exact ⟨h1, h2⟩)), hostG_no a b x q hab]
  · rw [if_neg hf]
    rw [Bool.not_eq_true] at hf
    rw [hf]
    rfl
theorem pre_take (c p : List UInt8) : Lib.hasPrefix c p = decide (c.take p.length = p) := by
  unfold Lib.hasPrefix
  rw [Bool.eq_iff_iff, decide_eq_true_eq, List.isPrefixOf_iff_prefix]
  constructor
  · rintro ⟨t, rfl⟩; exact List.take_left' rfl
  · intro h; rw [← h]; exact List.take_prefix _ _
/-- The document's Blocked. -/
theorem ref_blocked (b1 b2 b3 : Bool) (e n v : ByteArray) (hs : v.size < 4294967281) (k : Nat) (hk : 3 * v.size + 7 ≤ k) : muslinref18_Blocked.f k b1 b2 b3 e n v = some (blockF b1 e.data.toList n.data.toList v.data.toList) := by
  obtain ⟨m, rfl⟩ : ∃ m, k = m + 1 := ⟨k - 1, by omega⟩
  unfold muslinref18_Blocked.f
  simp only [muslinref18_Blocked.j0, ref_clean v (by omega) m (by omega), ref_kind v hs m (by omega), Option.bind_some, ByteArray.toList_eq, mk_toList]
  unfold blockF blockG
  generalize kindF v.data.toList = kk
  by_cases he : e.data.toList = [105, 109, 103]
  · by_cases hn : n.data.toList = [115, 114, 99]
    · rw [if_pos he, if_pos (show e.data.toList = [105, 109, 103] ∧ n.data.toList = [115, 114, 99] from ⟨he, hn⟩), if_neg (show ¬ ((n.data.toList != [115, 114, 99]) = true) by simp [hn])]
      by_cases h0 : kk = 0
      · rw [if_pos h0, if_pos h0]
        by_cases hc : cleanF v.data.toList = []
        · rw [if_pos hc, if_pos hc]
        · rw [if_neg hc, if_neg hc, size_mk, pre_take]
          show _ = some (!decide ((cleanF v.data.toList).take 4 = [97, 116, 116, 58]))
          by_cases hl : (cleanF v.data.toList).length < 4
          · rw [if_pos (by omega), decide_eq_false]; rfl
            intro h
            have := congrArg List.length h
            rw [List.length_take] at this
            simp at this
            omega
          · rw [if_neg (by omega), if_pos (by decide), if_pos (by omega), extract_take _ _ (by rw [size_mk]; omega), mk_toList]
            congr 1
            generalize (cleanF v.data.toList).take 4 = x
            by_cases hx : x = [97, 116, 116, 58]
            · rw [hx]; rfl
            · rw [decide_eq_false hx]; exact bne_iff_ne.2 hx
      · rw [if_neg h0, if_neg h0]
        by_cases h1 : kk = 1
        · rw [if_pos h1, if_pos h1]
        · rw [if_neg h1, if_neg h1]
          by_cases h2 : kk = 2
          · rw [if_pos h2, if_pos h2]
          · rw [if_neg h2, if_neg h2]
    · rw [if_pos he, if_neg (show ¬ (e.data.toList = [105, 109, 103] ∧ n.data.toList = [115, 114, 99]) from fun h => hn h.2), if_pos (show (n.data.toList != [115, 114, 99]) = true by simpa using hn)]
  · rw [if_neg he, if_neg (show ¬ (e.data.toList = [105, 109, 103] ∧ n.data.toList = [115, 114, 99]) from fun h => he h.1), if_pos trivial]
end Go.Proofs.YtchooidhieaphaaGreatDoor
