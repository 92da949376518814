/- The document's src, lang and digits say what srcF, langF and sizeF say: plain functions, no program. Condition: texts below 2^32 - 96 bytes. -/
import Derived.Test.YtchooidhieaphaaGreatDoorRefLink
import Derived.Test.YtchooidhieaphaaGreatDoorQSrc
import Derived.Test.YtchooidhieaphaaGreatDoorR10
set_option linter.unusedVariables false
set_option linter.unusedSimpArgs false
namespace Go.Proofs.YtchooidhieaphaaGreatDoor
open Go.RowKit Go.Proofs.YtchooidhieaphaaGreatDoorW.PrintWords PRulesValues PQ
theorem image_f (x : S39) : muslinref18_image.f x.f0 x.f1 x.f2 x.f3 = some (Lib.hasPrefix x.f1.data.toList [105, 109, 97, 103, 101, 47]) := by
  unfold muslinref18_image.f
  rw [pre_take]
  show _ = some (decide (x.f1.data.toList.take 6 = _))
  by_cases h : x.f1.size < 6
  · rw [if_neg (by omega), decide_eq_false]
    intro hh
    have := congrArg List.length hh
    rw [List.length_take, ← Lib.size_eq] at this
    simp at this
    omega
  · rw [if_pos (by omega), if_pos (by decide), if_pos (by omega), ByteArray.toList_eq, extract_take _ _ (by omega)]
    congr 1
    exact (same_dec _ _).symm
theorem rd_get (l : List S39) (i : Nat) (h : i < l.length) : rd_T39 l (i : Int) = l[i] := by
  show l.getD (i : Int).toNat z39 = _
  rw [List.getD_eq_getElem?_getD, Int.toNat_natCast, List.getElem?_eq_getElem h]
  rfl
theorem find_l0 (l : List S39) (id : ByteArray) (hl : l.length < 4294967296) : ∀ (n i k : Nat), l.length - i = n → i ≤ l.length → n + 1 ≤ k → (∀ (j : Nat) (y : S39), j < i → l[j]? = some y → namedB id y = false) →
    muslinref11_Find.l0 k l id (i : Int) = some (if findF l id < 0 then (0, false) else (findF l id, true)) := by
  intro n
  induction n with
  | zero =>
    intro i k hn hi hk hno
    obtain ⟨m, rfl⟩ : ∃ m, k = m + 1 := ⟨k - 1, by omega⟩
    simp only [muslinref11_Find.l0]
    rw [if_neg (by omega), findF_miss l id (fun j y hj => hno j y (by have := (List.getElem?_eq_some_iff.1 hj).1; omega) hj), if_pos (by decide)]
  | succ n ih =>
    intro i k hn hi hk hno
    obtain ⟨m, rfl⟩ : ∃ m, k = m + 1 := ⟨k - 1, by omega⟩
    have hw : wrap64 ((i : Int) + 1) = ((i + 1 : Nat) : Int) := by unfold wrap64; omega
    have hil : i < l.length := by omega
    simp only [muslinref11_Find.l0]
    rw [if_pos (by omega), if_pos (by omega), hw, rd_get l i hil, ByteArray.toList_eq, ByteArray.toList_eq]
    have hx : l[i]? = some l[i] := List.getElem?_eq_getElem hil
    generalize l[i] = x at hx
    by_cases h : namedB id x = true
    · rw [findF_hit l id i x hx h hno, if_neg (show ¬ (i : Int) < 0 by omega)]
      unfold namedB at h
      rw [Bool.and_eq_true, decide_eq_true_eq, decide_eq_true_eq] at h
      rw [if_pos h.2, if_neg h.1]
    · rw [Bool.not_eq_true] at h
      have := ih (i + 1) m (by omega) (by omega) (by omega) (fun j y hj hy => by
        by_cases e : j = i
        · subst e; rw [hx] at hy; injection hy with hy; rw [← hy]; exact h
        · exact hno j y (by omega) hy)
      rw [this]
      split
      · rename_i h2
        split
        · rfl
        · rename_i h3
          unfold namedB at h
          rw [decide_eq_true h3, decide_eq_true h2] at h
          cases h
      · rfl
theorem find_f (l : List S39) (id : ByteArray) (hl : l.length < 4294967296) (k : Nat) (hk : l.length + 1 ≤ k) : muslinref11_Find.f k l id = some (if findF l id < 0 then (0, false) else (findF l id, true)) := by
  unfold muslinref11_Find.f
  exact find_l0 l id hl l.length 0 k rfl (Nat.zero_le _) hk (fun j y h => absurd h (Nat.not_lt_zero _))
theorem itoa_nat (i : Nat) : Lib.itoa (i : Int) = Lib.decDigits i := by
  unfold Lib.itoa
  rw [if_neg (by omega), Int.toNat_natCast]
theorem number_i (i k : Nat) (h : i < 4294967296) (hk : i < k) : muslinref18_Number.f k (i : Int) = some ⟨(Lib.itoa (i : Int)).toArray⟩ := by
  rw [number_f i k h hk, itoa_nat]
theorem join_att (i : Nat) : ((⟨#[97, 116, 116, 58]⟩ : ByteArray) ++ ⟨(Lib.itoa (i : Int)).toArray⟩) = ⟨(attB ++ Lib.itoa (i : Int)).toArray⟩ := by
  have h := str_join attB (Lib.itoa (i : Int))
  injection h
theorem number_small (i : Nat) (h : i < 4294967296) : (Lib.itoa (i : Int)).length ≤ 21 := by
  have := Lib.itoa_length_le (i : Int) (by omega) (by omega)
  omega
/-- The picture that a whole address names. -/
def attC (c : List UInt8) : Int := if Lib.hasPrefix c attB = true then attN c else -1
theorem attC_iff (c : List UInt8) (i : Nat) (hi : i < 4294967296) : c = attB ++ Lib.itoa (i : Int) ↔ attC c = (i : Int) := by
  constructor
  · rintro rfl
    unfold attC
    rw [if_pos (att_pre _)]
    unfold attN
    rw [show (attB ++ Lib.itoa (i : Int)).drop 4 = Lib.itoa (i : Int) from rfl, atoi_itoa i (by omega)]
    exact if_pos rfl
  · intro h
    unfold attC at h
    split at h
    · unfold attN at h
      split at h
      · split at h
        · rename_i hc
          rw [h] at hc
          exact hc
        · omega
      · omega
    · omega
theorem src_l1 (l : List S39) (c : ByteArray) (hl : l.length < 4294967296) : ∀ (n i k : Nat), l.length - i = n → i ≤ l.length → n + l.length + 1 ≤ k →
    muslinref18_src.l1 k l c (i : Int) = some (if (i : Int) ≤ attC c.data.toList ∧ attC c.data.toList < l.length ∧ Lib.hasPrefix (rd_T39 l (attC c.data.toList)).f1.data.toList [105, 109, 97, 103, 101, 47] = true then (c, true) else (⟨#[]⟩, false)) := by
  intro n
  induction n with
  | zero =>
    intro i k hn hi hk
    obtain ⟨m, rfl⟩ : ∃ m, k = m + 1 := ⟨k - 1, by omega⟩
    simp only [muslinref18_src.l1]
    rw [if_neg (by omega), if_neg (by omega)]
  | succ n ih =>
    intro i k hn hi hk
    obtain ⟨m, rfl⟩ : ∃ m, k = m + 1 := ⟨k - 1, by omega⟩
    have hw : wrap64 ((i : Int) + 1) = ((i + 1 : Nat) : Int) := by unfold wrap64; omega
    have hil : i < l.length := by omega
    have hnext := ih (i + 1) m (by omega) (by omega) (by omega)
    have hns := number_small i (by omega)
    simp only [muslinref18_src.l1]
    rw [if_pos (by omega), if_pos (by omega), hw, image_f, Option.bind_some, number_i i m (by omega) (by omega), Option.bind_some, hnext, join_att]
    rw [if_pos (show 4 + (⟨(Lib.itoa (i : Int)).toArray⟩ : ByteArray).size ≤ 9223372036854775807 by rw [size_mk]; omega), ByteArray.toList_eq, ByteArray.toList_eq, mk_toList]
    have hiff := attC_iff c.data.toList i (by omega)
    generalize attC c.data.toList = a at *
    by_cases hp : Lib.hasPrefix (rd_T39 l (i : Int)).f1.data.toList [105, 109, 97, 103, 101, 47] = true
    · rw [if_pos hp]
      by_cases he : a = (i : Int)
      · rw [if_pos (hiff.2 he)]
        subst he
        rw [if_pos ⟨Int.le_refl _, by omega, hp⟩]
      · rw [if_neg (fun h => he (hiff.1 h))]
        congr 1
        by_cases hc : ((i + 1 : Nat) : Int) ≤ a ∧ a < l.length ∧ Lib.hasPrefix (rd_T39 l a).f1.data.toList [105, 109, 97, 103, 101, 47] = true
        · rw [if_pos hc, if_pos ⟨by omega, hc.2⟩]
        · rw [if_neg hc, if_neg (fun h => hc ⟨by omega, h.2⟩)]
    · rw [if_neg hp]
      congr 1
      by_cases hc : ((i + 1 : Nat) : Int) ≤ a ∧ a < l.length ∧ Lib.hasPrefix (rd_T39 l a).f1.data.toList [105, 109, 97, 103, 101, 47] = true
      · rw [if_pos hc, if_pos ⟨by omega, hc.2⟩]
      · rw [if_neg hc, if_neg (fun h => hc ⟨by
          rcases Int.lt_or_eq_of_le h.1 with h1 | h1
          · omega
          · exact absurd h.2.2 (by rw [← h1]; exact hp), h.2⟩)]
theorem src_l0 (l : List S39) (c : ByteArray) (nm r : List UInt8) (hc : c.data.toList = nm ++ 58 :: r) (hno : (58 : UInt8) ∉ nm) (hs : c.size < 4294967281) (hl : l.length < 4294967296) : ∀ (n i k : Nat), nm.length - i = n → i ≤ nm.length → n + l.length + 2 ≤ k →
    muslinref18_src.l0 k l c (i : Int) = some (if 0 ≤ findF l ⟨r.toArray⟩ ∧ Lib.hasPrefix (rd_T39 l (findF l ⟨r.toArray⟩)).f1.data.toList [105, 109, 97, 103, 101, 47] = true then (⟨(attB ++ Lib.itoa (findF l ⟨r.toArray⟩)).toArray⟩, true) else (⟨#[]⟩, false)) := by
  have hsz : c.size = nm.length + 1 + r.length := by rw [Lib.size_eq, hc, List.length_append, List.length_cons]; omega
  intro n
  induction n with
  | zero =>
    intro i k hn hi hk
    obtain ⟨m, rfl⟩ : ∃ m, k = m + 1 := ⟨k - 1, by omega⟩
    have hi2 : i = nm.length := by omega
    subst hi2
    have hw : wrap64 ((nm.length : Int) + 1) = ((nm.length + 1 : Nat) : Int) := by unfold wrap64; omega
    obtain ⟨y, hy, hb⟩ := bt_get c nm.length (by omega)
    rw [hc, List.getElem?_append_right (Nat.le_refl _), Nat.sub_self] at hy
    have hy2 : (58 : UInt8) = y := by simpa using hy
    subst hy2
    have hex : c.extract (((nm.length + 1 : Nat) : Int)).toNat c.size = ⟨r.toArray⟩ := by
      have : (c.extract (((nm.length + 1 : Nat) : Int)).toNat c.size).data.toList = r := by
        rw [Int.toNat_natCast, extract_drop', hc, show nm ++ 58 :: r = (nm ++ [58]) ++ r by simp, List.drop_left' (by rw [List.length_append]; rfl)]
      rw [← this]
    simp only [muslinref18_src.l0]
    rw [if_pos (by omega), if_pos (by omega), hb, if_pos (by rfl), hw, if_pos (by omega), if_pos (by omega), hex, find_f l _ hl m (by omega), Option.bind_some]
    have hr := findF_range l ⟨r.toArray⟩
    generalize findF l ⟨r.toArray⟩ = a at *
    by_cases ha : a < 0
    · rw [if_pos ha, if_neg (by decide), if_neg (fun h => by omega)]
    · obtain ⟨j, rfl⟩ : ∃ j : Nat, a = (j : Int) := ⟨a.toNat, by omega⟩
      have hns := number_small j (by omega)
      rw [if_neg ha]
      show (if true = true then _ else _) = _
      rw [if_pos rfl]
      show (if 0 ≤ (j : Int) then _ else _) = _
      rw [if_pos (by omega)]
      show (if (j : Int) < _ then _ else _) = _
      rw [if_pos (by omega)]
      show (muslinref18_image.f (rd_T39 l (j : Int)).f0 (rd_T39 l (j : Int)).f1 (rd_T39 l (j : Int)).f2 (rd_T39 l (j : Int)).f3).bind _ = _
      rw [image_f, Option.bind_some]
      by_cases hp : Lib.hasPrefix (rd_T39 l (j : Int)).f1.data.toList [105, 109, 97, 103, 101, 47] = true
      · rw [if_pos hp, if_pos ⟨by omega, hp⟩, number_i j m (by omega) (by omega), Option.bind_some, join_att, if_pos (by rw [size_mk]; omega)]
      · rw [if_neg hp, if_neg (fun h => hp h.2)]
  | succ n ih =>
    intro i k hn hi hk
    obtain ⟨m, rfl⟩ : ∃ m, k = m + 1 := ⟨k - 1, by omega⟩
    have hw : wrap64 ((i : Int) + 1) = ((i + 1 : Nat) : Int) := by unfold wrap64; omega
    obtain ⟨y, hy, hb⟩ := bt_get c i (by omega)
    rw [hc, List.getElem?_append_left (by omega)] at hy
    have hy58 : ¬ (y.toNat : Int) = 58 := fun h => by
      have := (u8_eq_int y 58 (by decide)).1 h
      subst this
      exact hno (List.mem_of_getElem? hy)
    simp only [muslinref18_src.l0]
    rw [if_pos (by omega), if_pos (by omega), hb, if_neg hy58, hw]
    exact ih (i + 1) m (by omega) (by omega) (by omega)
/-- The document's src. -/
theorem ref_src (b1 b2 b3 : Bool) (l : List S39) (v : ByteArray) (hs : v.size < 4294967281) (hl : l.length < 4294967296) (k : Nat) (hk : 3 * v.size + 2 * l.length + 9 ≤ k) :
    muslinref18_src.f k b1 b2 b3 l v = some (⟨(srcF b1 l v.data.toList).1.toArray⟩, (srcF b1 l v.data.toList).2) := by
  unfold muslinref18_src.f
  have hcl := cleanF_le v.data.toList
  rw [← Lib.size_eq] at hcl
  rw [ref_clean v (by omega) k (by omega), ref_kind v hs k (by omega), Option.bind_some, Option.bind_some]
  unfold srcF
  have hcs : (⟨(cleanF v.data.toList).toArray⟩ : ByteArray).size ≤ v.size := by rw [size_mk]; exact hcl
  have hl1 := src_l1 l ⟨(cleanF v.data.toList).toArray⟩ hl
  rw [mk_toList] at hl1
  have hother : ∀ m, 2 * l.length + 1 ≤ m → kindF v.data.toList ≠ 4 → muslinref18_src.l1 m l ⟨(cleanF v.data.toList).toArray⟩ 0 = some (⟨(srcG l (srcN l v.data.toList)).1.toArray⟩, (srcG l (srcN l v.data.toList)).2) := by
    intro m hm h4
    have h := hl1 l.length 0 m rfl (Nat.zero_le _) (by omega)
    have hn : srcN l v.data.toList = attC (cleanF v.data.toList) := by unfold srcN attC; rw [if_neg h4]
    rw [show ((0 : Nat) : Int) = 0 from rfl] at h
    rw [h, hn]
    unfold srcG
    by_cases hc : 0 ≤ attC (cleanF v.data.toList) ∧ attC (cleanF v.data.toList) < l.length ∧ Lib.hasPrefix (rd_T39 l (attC (cleanF v.data.toList))).f1.data.toList [105, 109, 97, 103, 101, 47] = true
    · rw [if_pos hc, if_pos hc]
      obtain ⟨j, hj⟩ : ∃ j : Nat, attC (cleanF v.data.toList) = (j : Int) := ⟨(attC (cleanF v.data.toList)).toNat, by omega⟩
      have := (attC_iff (cleanF v.data.toList) j (by omega)).2 hj
      rw [hj, ← this]
    · rw [if_neg hc, if_neg hc]
  by_cases h4 : kindF v.data.toList = 4
  · rw [if_pos h4, if_neg (show ¬ (kindF v.data.toList = 2 ∧ b1 = true) from fun h => by omega)]
    have hsch : (schemeF v.data.toList).2 = true := by
      cases hq : (schemeF v.data.toList).2 with
      | true => rfl
      | false =>
        unfold kindF kindG at h4
        rw [hq, if_pos rfl] at h4
        omega
    obtain ⟨_, hcf⟩ := scheme_len _ hsch
    have hall : (58 : UInt8) ∉ (Lib.cut (cleanF v.data.toList) [58]).1 := by
      unfold schemeF schemeOf at hsch
      split at hsch
      · rename_i hh
        exact colon_not _ hh.2.2.2
      · cases hsch
    have hcut := (cut_one (cleanF v.data.toList) 58).1 hcf
    have hN : srcN l v.data.toList = findF l ⟨(Lib.cut (cleanF v.data.toList) [58]).2.1.toArray⟩ := by unfold srcN; rw [if_pos h4]
    rw [hN]
    generalize (Lib.cut (cleanF v.data.toList) [58]).1 = nm at *
    generalize (Lib.cut (cleanF v.data.toList) [58]).2.1 = r at *
    have hlen : (cleanF v.data.toList).length = nm.length + 1 + r.length := by rw [hcut, List.length_append, List.length_cons]; omega
    have h := src_l0 l ⟨(cleanF v.data.toList).toArray⟩ nm r (by rw [mk_toList]; exact hcut) hall (by omega) hl nm.length 0 k rfl (Nat.zero_le _) (by omega)
    rw [show ((0 : Nat) : Int) = 0 from rfl] at h
    rw [h]
    unfold srcG
    have hr := findF_range l ⟨r.toArray⟩
    generalize findF l ⟨r.toArray⟩ = a at *
    by_cases hc : 0 ≤ a ∧ Lib.hasPrefix (rd_T39 l a).f1.data.toList [105, 109, 97, 103, 101, 47] = true
    · rw [if_pos hc, if_pos (show 0 ≤ a ∧ a < l.length ∧ Lib.hasPrefix (rd_T39 l a).f1.data.toList [105, 109, 97, 103, 101, 47] = true from ⟨hc.1, by omega, hc.2⟩)]
    · rw [if_neg hc, if_neg (show ¬ (0 ≤ a ∧ a < l.length ∧ Lib.hasPrefix (rd_T39 l a).f1.data.toList [105, 109, 97, 103, 101, 47] = true) from fun h => hc ⟨h.1, h.2.2⟩)]
  · rw [if_neg h4]
    obtain ⟨m, rfl⟩ : ∃ m, k = m + 1 := ⟨k - 1, by omega⟩
    have ho := hother m (by omega) h4
    simp only [muslinref18_src.j1]
    by_cases h2 : kindF v.data.toList = 2
    · rw [if_pos h2]
      cases b1 with
      | true => rw [if_pos rfl, if_pos (show kindF v.data.toList = 2 ∧ true = true from ⟨h2, rfl⟩)]
      | false =>
        rw [if_neg (show ¬ (false = true) by decide), if_neg (show ¬ (kindF v.data.toList = 2 ∧ false = true) from fun h => absurd h.2 (by decide))]
        exact ho
    · rw [if_neg h2, if_neg (show ¬ (false = true) by decide), if_neg (show ¬ (kindF v.data.toList = 2 ∧ b1 = true) from fun h => h2 h.1)]
      exact ho
theorem lang_mem (c : UInt8) : decide (c ∈ langSet) = (letterB c || digitB c || c == 45) := by
  have h : ∀ n : Fin 256, decide (UInt8.ofNat n.val ∈ langSet) = (letterB (UInt8.ofNat n.val) || digitB (UInt8.ofNat n.val) || (UInt8.ofNat n.val) == 45) := by decide +kernel
  have := h ⟨c.toNat, c.toNat_lt⟩
  simpa using this
theorem size_mem (c : UInt8) : decide (c ∈ sizeSet) = digitB c := by
  have h : ∀ n : Fin 256, decide (UInt8.ofNat n.val ∈ sizeSet) = digitB (UInt8.ofNat n.val) := by decide +kernel
  have := h ⟨c.toNat, c.toNat_lt⟩
  simpa using this
theorem made_end (t : List UInt8) (N : Nat) (v : ByteArray) (h : v.data.toList.all (fun x => decide (x ∈ t)) = true) : (if (v.size : Int) ≥ 1 then some (decide ((v.size : Int) ≤ (N : Int))) else some false) = some (madeF t N v.data.toList) := by
  unfold madeF
  rw [h, Bool.and_true]
  by_cases h1 : v.data.toList = []
  · have h0 : v.size = 0 := by rw [Lib.size_eq, h1]; rfl
    rw [if_neg (by omega), decide_eq_false (fun hh => hh h1)]; rfl
  · have : 0 < v.data.toList.length := List.length_pos_iff.2 h1
    rw [← Lib.size_eq] at this
    rw [if_pos (by omega), decide_eq_true h1, Bool.true_and, ← Lib.size_eq]
    congr 1
    rw [decide_eq_decide]
    omega
theorem made_bad (t : List UInt8) (N : Nat) (l : List UInt8) (i : Nat) (c : UInt8) (r : List UInt8) (hd : l.drop i = c :: r) (h : decide (c ∈ t) = false) : madeF t N l = false := by
  unfold madeF
  have : l.all (fun x => decide (x ∈ t)) = false := by
    rw [List.all_eq_false]
    exact ⟨c, by rw [← List.take_append_drop i l, hd]; simp, by simpa using h⟩
  rw [this, Bool.and_false, Bool.and_false]
theorem all_step {t l r : List UInt8} {i : Nat} {c : UInt8} (hd : l.drop i = c :: r) (ha : (l.take i).all (fun x => decide (x ∈ t)) = true) (h : decide (c ∈ t) = true) : (l.take (i + 1)).all (fun x => decide (x ∈ t)) = true := by
  refine all_snoc ha (y := c) ?_ h
  have := congrArg (fun l => l[0]?) hd
  simpa using this
theorem lang_l0 (v : ByteArray) (hs : v.size < 4294967281) : ∀ (n i k : Nat), v.size - i = n → i ≤ v.size → n + 1 ≤ k → (v.data.toList.take i).all (fun x => decide (x ∈ langSet)) = true →
    muslinref18_lang.l0 k v (i : Int) = some (madeF langSet 20 v.data.toList) := by
  intro n
  induction n with
  | zero =>
    intro i k hn hi hk ha
    obtain ⟨m, rfl⟩ : ∃ m, k = m + 1 := ⟨k - 1, by omega⟩
    rw [List.take_of_length_le (by rw [← Lib.size_eq]; omega)] at ha
    simp only [muslinref18_lang.l0]
    rw [if_neg (by omega)]
    exact made_end langSet 20 v ha
  | succ n ih =>
    intro i k hn hi hk ha
    obtain ⟨m, rfl⟩ : ∃ m, k = m + 1 := ⟨k - 1, by omega⟩
    obtain ⟨c, hd, hb⟩ := bt_drop v i (by omega)
    have hw : wrap64 ((i : Int) + 1) = ((i + 1 : Nat) : Int) := by unfold wrap64; omega
    have hm := lang_mem c
    have hgo : decide (c ∈ langSet) = true → muslinref18_lang.l0 m v ((i + 1 : Nat) : Int) = some (madeF langSet 20 v.data.toList) := fun h => ih (i + 1) m (by omega) (by omega) (by omega) (all_step hd ha h)
    simp only [muslinref18_lang.l0, hb, letter_f, digit_f, Option.bind_some, hw]
    rw [if_pos (by omega), if_pos (by omega)]
    by_cases h1 : letterB c = true
    · rw [if_pos h1]; exact hgo (by rw [hm, h1]; rfl)
    · rw [if_neg h1]
      by_cases h2 : digitB c = true
      · rw [if_pos h2]; exact hgo (by rw [hm, h2]; simp)
      · rw [if_neg h2]
        have h45 : (c.toNat : Int) = 45 ↔ c = 45 := u8_eq_int c 45 (by decide)
        by_cases h3 : c = 45
        · rw [if_pos (h45.2 h3)]; exact hgo (by rw [hm, h3]; rfl)
        · rw [if_neg (fun h => h3 (h45.1 h)), made_bad langSet 20 _ i c _ hd (by rw [hm]; simp [h1, h2, h3])]
theorem digits_l0 (v : ByteArray) (hs : v.size < 4294967281) : ∀ (n i k : Nat), v.size - i = n → i ≤ v.size → n + 1 ≤ k → (v.data.toList.take i).all (fun x => decide (x ∈ sizeSet)) = true →
    muslinref18_digits.l0 k v (i : Int) = some (madeF sizeSet 4 v.data.toList) := by
  intro n
  induction n with
  | zero =>
    intro i k hn hi hk ha
    obtain ⟨m, rfl⟩ : ∃ m, k = m + 1 := ⟨k - 1, by omega⟩
    rw [List.take_of_length_le (by rw [← Lib.size_eq]; omega)] at ha
    simp only [muslinref18_digits.l0]
    rw [if_neg (by omega)]
    exact made_end sizeSet 4 v ha
  | succ n ih =>
    intro i k hn hi hk ha
    obtain ⟨m, rfl⟩ : ∃ m, k = m + 1 := ⟨k - 1, by omega⟩
    obtain ⟨c, hd, hb⟩ := bt_drop v i (by omega)
    have hw : wrap64 ((i : Int) + 1) = ((i + 1 : Nat) : Int) := by unfold wrap64; omega
    have hm := size_mem c
    simp only [muslinref18_digits.l0, hb, digit_f, Option.bind_some, hw]
    rw [if_pos (by omega), if_pos (by omega)]
    by_cases h2 : digitB c = true
    · rw [if_pos h2]; exact ih (i + 1) m (by omega) (by omega) (by omega) (all_step hd ha (by rw [hm, h2]))
    · rw [if_neg h2, made_bad sizeSet 4 _ i c _ hd (by rw [hm]; simpa using h2)]
/-- The document's lang and digits. -/
theorem ref_lang (v : ByteArray) (hs : v.size < 4294967281) (k : Nat) (hk : v.size + 1 ≤ k) : muslinref18_lang.f k v = some (madeF langSet 20 v.data.toList) := lang_l0 v hs v.size 0 k rfl (Nat.zero_le _) hk rfl
theorem ref_digits (v : ByteArray) (hs : v.size < 4294967281) (k : Nat) (hk : v.size + 1 ≤ k) : muslinref18_digits.f k v = some (madeF sizeSet 4 v.data.toList) := digits_l0 v hs v.size 0 k rfl (Nat.zero_le _) hk rfl
end Go.Proofs.YtchooidhieaphaaGreatDoor
