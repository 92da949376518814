/- What rules.Value keeps it keeps again (links): plain lists of bytes, no program. -/
import Derived.Test.YtchooidhieaphaaGreatDoorSafeFacts
set_option linter.unusedVariables false
set_option linter.unusedSimpArgs false
namespace Go.Proofs.YtchooidhieaphaaGreatDoor
open Go.RowKit PRulesValues

/-- Neither end in the set. -/
def Ends (cs t : List UInt8) : Prop := (∀ a, t.head? = some a → a ∉ cs) ∧ (∀ a, t.getLast? = some a → a ∉ cs)
theorem blanks_keep {a : UInt8} (h : a ∉ blanks) : keepB a = true := by
  unfold keepB
  simp [blanks] at h
  simp [h]
theorem dropWhile_id (p : UInt8 → Bool) (t : List UInt8) (h : ∀ a, t.head? = some a → p a = false) : t.dropWhile p = t := by
  cases t with
  | nil => rfl
  | cons a t => rw [List.dropWhile_cons_of_neg (by simp [h a rfl])]
theorem dropWhile_head (p : UInt8 → Bool) : ∀ (t : List UInt8) (a : UInt8), (t.dropWhile p).head? = some a → p a = false
  | [], a, h => by simp at h
  | b :: t, a, h => by
    cases hb : p b with
    | true => rw [List.dropWhile_cons_of_pos hb] at h; exact dropWhile_head p t a h
    | false =>
      rw [List.dropWhile_cons_of_neg (by simp [hb])] at h
      injection h with h
      rw [← h]; exact hb
theorem trimS_id {cs t : List UInt8} (h : Ends cs t) : Lib.trimS t cs = t := by
  have h2 : Lib.trimRightS t cs = t := by
    unfold Lib.trimRightS
    rw [dropWhile_id _ t.reverse (fun a ha => by rw [List.head?_reverse] at ha; simpa using h.2 a ha), List.reverse_reverse]
  unfold Lib.trimS
  rw [h2]
  unfold Lib.trimLeftS
  exact dropWhile_id _ t (fun a ha => by simpa using h.1 a ha)
theorem trimS_ends (l cs : List UInt8) : Ends cs (Lib.trimS l cs) := by
  have hr : ∀ a, (Lib.trimRightS l cs).getLast? = some a → a ∉ cs := by
    intro a ha
    unfold Lib.trimRightS at ha
    rw [List.getLast?_reverse] at ha
    have := dropWhile_head _ _ a ha
    simpa using this
  unfold Lib.trimS Lib.trimLeftS
  refine ⟨fun a ha => by simpa using dropWhile_head _ _ a ha, fun a ha => ?_⟩
  obtain ⟨pre, hp⟩ := List.dropWhile_suffix (l := Lib.trimRightS l cs) (fun x => cs.contains x)
  refine hr a ?_
  rw [← hp]
  have hne : (Lib.trimRightS l cs).dropWhile (fun x => cs.contains x) ≠ [] := by
    intro h0; rw [h0] at ha; simp at ha
  rw [List.getLast?_append, ha]
  rfl
theorem cut_ends {t : List UInt8} (h : Ends blanks t) : Ends blanks (cutF t) := by
  constructor
  · intro a ha
    cases t with
    | nil => simp [cutF] at ha
    | cons b t =>
      have hb := h.1 b rfl
      unfold cutF at ha
      rw [List.filter_cons_of_pos (blanks_keep hb)] at ha
      injection ha with ha
      rw [← ha]; exact hb
  · intro a ha
    by_cases ht : t = []
    · subst ht; simp [cutF] at ha
    · have hs := List.dropLast_concat_getLast ht
      have hb := h.2 (t.getLast ht) (List.getLast?_eq_some_getLast ht)
      rw [← hs] at ha
      unfold cutF at ha
      rw [List.filter_append, List.filter_cons_of_pos (blanks_keep hb)] at ha
      simp at ha
      rw [← ha]; exact hb
theorem clean_again (l : List UInt8) : cleanF (cleanF l) = cleanF l := by
  unfold cleanF
  rw [trimS_id (cut_ends (trimS_ends l blanks))]
  unfold cutF
  rw [List.filter_filter]
  congr 1
  funext x
  cases keepB x <;> rfl
theorem scheme_again (v : List UInt8) : schemeF (cleanF v) = schemeF v := by unfold schemeF; rw [clean_again]
theorem kind_again (v : List UInt8) : kindF (cleanF v) = kindF v := by unfold kindF; rw [scheme_again, clean_again]
theorem href_again (v : List UInt8) (h : (hrefF v).2 = true) : hrefF (hrefF v).1 = ((hrefF v).1, true) := by
  unfold hrefF at h ⊢
  split at h
  · rename_i hk
    rw [if_pos hk]
    show (if 1 ≤ kindF (cleanF v) ∧ kindF (cleanF v) ≤ 3 then (cleanF (cleanF v), true) else ([], false)) = _
    rw [kind_again, if_pos hk, clean_again]
  · cases h

/-- A number's text holds digits alone. -/
theorem dec_digits : ∀ (u : Nat), (Lib.decDigits u).all (fun c => digitB c) = true := by
  intro u
  induction u using Nat.strongRecOn with
  | _ u ih =>
  have hd : ∀ q : Nat, q < 10 → digitB (UInt8.ofNat (48 + q)) = true := by decide
  rw [Lib.decDigits]
  split
  · rename_i h
    simp only [List.all_cons, List.all_nil, Bool.and_true]
    exact hd u h
  · rw [List.all_append, ih (u / 10) (by omega)]
    simp only [List.all_cons, List.all_nil, Bool.and_true, Bool.true_and]
    exact hd (u % 10) (by omega)
theorem parse_dec : ∀ (u : Nat), u < 1844674407370955162 → Lib.parseUint10 0 (Lib.decDigits u) = .ok u := by
  have hap : ∀ (l : List UInt8) (acc r q : Nat), Lib.parseUint10 acc l = .ok r → q < 10 → r < 184467440737095517 → Lib.parseUint10 acc (l ++ [UInt8.ofNat (48 + q)]) = .ok (r * 10 + q) := by
    intro l
    induction l with
    | nil =>
      intro acc r q h hq hr
      simp only [Lib.parseUint10] at h
      injection h with h
      subst h
      have hn : (UInt8.ofNat (48 + q)).toNat = 48 + q := by rw [UInt8.toNat_ofNat']; omega
      simp only [List.nil_append, Lib.parseUint10, hn]
      rw [if_pos (by omega), if_neg (by omega), if_neg (by omega)]
      congr 1
      omega
    | cons c l ih =>
      intro acc r q h hq hr
      simp only [List.cons_append, Lib.parseUint10] at h ⊢
      split at h
      · rename_i h1
        rw [if_pos h1]
        split at h
        · cases h
        · rename_i h2
          rw [if_neg h2]
          split at h
          · cases h
          · rename_i h3
            rw [if_neg h3]
            exact ih _ r q h hq hr
      · cases h
  intro u
  induction u using Nat.strongRecOn with
  | _ u ih =>
  intro hu
  rw [Lib.decDigits]
  split
  · rename_i h
    have hn : (UInt8.ofNat (48 + u)).toNat = 48 + u := by rw [UInt8.toNat_ofNat']; omega
    simp only [Lib.parseUint10, hn]
    rw [if_pos (by omega), if_neg (by omega), if_neg (by omega)]
    congr 1
    omega
  · have := hap (Lib.decDigits (u / 10)) 0 (u / 10) (u % 10) (ih (u / 10) (by omega) (by omega)) (by omega) (by omega)
    rw [this]
    congr 1
    omega

theorem dec_ne (u : Nat) : Lib.decDigits u ≠ [] := by
  rw [Lib.decDigits]
  split <;> simp
/-- What Itoa writes Atoi reads. -/
theorem atoi_itoa (n : Nat) (hn : n < 1844674407370955162) : atoiF (Lib.itoa (n : Int)) = some (n : Int) := by
  have hi : Lib.itoa (n : Int) = Lib.decDigits n := by
    unfold Lib.itoa
    rw [if_neg (by omega), Int.toNat_natCast]
  rw [hi]
  have hp := parse_dec n hn
  have hall := dec_digits n
  have hne := dec_ne n
  unfold atoiF
  cases hd : Lib.decDigits n with
  | nil => exact absurd hd hne
  | cons c r =>
    rw [hd] at hp hall
    rw [List.all_cons, Bool.and_eq_true] at hall
    have hc : 48 ≤ c.toNat ∧ c.toNat ≤ 57 := by simpa [digitB] using hall.1
    have hm : Lib.parseMag (c :: r) = .ok n := by
      unfold Lib.parseMag
      rw [if_neg (by simp)]
      exact hp
    have ha : Lib.atoiAll (c :: r) = .ok (n : Int) := by
      simp only [Lib.atoiAll]
      rw [if_neg (show ¬ (c.toNat = 43 ∨ c.toNat = 45) by omega), hm]
      simp only
      rw [if_neg (by omega), if_neg (by omega), if_neg (by omega)]
    rw [ha]
/-- The address of an attachment is its own cleaned form. -/
theorem att_ends (n : Nat) : cleanF (attB ++ Lib.itoa (n : Int)) = attB ++ Lib.itoa (n : Int) := by
  have hi : Lib.itoa (n : Int) = Lib.decDigits n := by
    unfold Lib.itoa
    rw [if_neg (by omega), Int.toNat_natCast]
  rw [hi]
  have hall := dec_digits n
  have hdb : ∀ c : UInt8, digitB c = true → c ∉ blanks := by
    intro c hc
    have : 48 ≤ c.toNat := by
      have : 48 ≤ c.toNat ∧ c.toNat ≤ 57 := by simpa [digitB] using hc
      exact this.1
    intro hm
    have hb : ∀ x ∈ blanks, x.toNat ≤ 32 := by decide
    have := hb c hm
    omega
  have hE : Ends blanks (attB ++ Lib.decDigits n) := by
    refine ⟨fun a ha => ?_, fun a ha => ?_⟩
    · have : a = 97 := by simpa [attB] using ha.symm
      subst this
      decide
    · rw [List.getLast?_append, List.getLast?_eq_some_getLast (dec_ne n)] at ha
      have : (Lib.decDigits n).getLast (dec_ne n) = a := by simpa using ha
      rw [← this]
      exact hdb _ (List.all_eq_true.1 hall _ (List.getLast_mem _))
  unfold cleanF
  rw [trimS_id hE]
  unfold cutF
  rw [List.filter_eq_self]
  intro a ha
  rcases List.mem_append.1 ha with h | h
  · have : ∀ x ∈ attB, keepB x = true := by decide
    exact this a h
  · exact blanks_keep (hdb a (List.all_eq_true.1 hall a h))

theorem att_cut (d : List UInt8) : Lib.cut (attB ++ d) [58] = ([97, 116, 116], d, true) := by
  have hi : Lib.index (attB ++ d) [58] = 3 := by simp [attB, Lib.index]
  unfold Lib.cut
  rw [hi, if_pos (by decide)]
  simp [attB]
theorem att_scheme (n : Nat) : schemeF (attB ++ Lib.itoa (n : Int)) = ([97, 116, 116], true) := by
  unfold schemeF
  rw [att_ends, att_cut]
  show schemeOf [97, 116, 116] true = _
  decide
theorem att_kind (n : Nat) : kindF (attB ++ Lib.itoa (n : Int)) = 5 := by
  unfold kindF
  rw [att_scheme]
  unfold kindG
  rw [if_neg (by decide), if_neg (fun h => absurd h.1 (by decide)), if_neg (fun h => absurd h.1 (by decide)), if_neg (by decide), if_neg (by decide)]
theorem att_pre (d : List UInt8) : Lib.hasPrefix (attB ++ d) attB = true := by
  unfold Lib.hasPrefix
  exact List.isPrefixOf_iff_prefix.2 (List.prefix_append _ _)
theorem att_src (l : List S39) (n : Nat) (hn : n < 1844674407370955162) : srcN l (attB ++ Lib.itoa (n : Int)) = (n : Int) := by
  unfold srcN
  rw [att_kind, if_neg (by decide), att_ends, if_pos (att_pre _)]
  unfold attN
  rw [show (attB ++ Lib.itoa (n : Int)).drop 4 = Lib.itoa (n : Int) from rfl, atoi_itoa n hn]
  exact if_pos rfl
theorem src_again (b : Bool) (l : List S39) (v : List UInt8) (hl : l.length < 4294967296) (h : (srcF b l v).2 = true) : srcF b l (srcF b l v).1 = ((srcF b l v).1, true) ∧ (kindF (srcF b l v).1 = 2 ∧ b = true ∨ kindF (srcF b l v).1 = 5) := by
  unfold srcF at h
  split at h
  · rename_i hk
    have e : srcF b l v = (cleanF v, true) := by unfold srcF; rw [if_pos hk]
    rw [e]
    have hk2 : kindF (cleanF v) = 2 ∧ b = true := ⟨by rw [kind_again]; exact hk.1, hk.2⟩
    refine ⟨?_, .inl hk2⟩
    unfold srcF
    rw [if_pos hk2, clean_again]
  · rename_i hk
    have e : srcF b l v = srcG l (srcN l v) := by unfold srcF; rw [if_neg hk]
    rw [e]
    unfold srcG at h
    split at h
    · rename_i hn
      obtain ⟨i, hi⟩ : ∃ i : Nat, srcN l v = (i : Int) := ⟨(srcN l v).toNat, by omega⟩
      rw [hi] at hn ⊢
      have e2 : srcG l (i : Int) = (attB ++ Lib.itoa (i : Int), true) := by unfold srcG; rw [if_pos hn]
      rw [e2]
      refine ⟨?_, .inr (att_kind i)⟩
      unfold srcF
      rw [if_neg (fun hh => by rw [att_kind] at hh; exact absurd hh.1 (by decide)), att_src l i (by have := hn.2.1; omega), e2]
    · cases h
end Go.Proofs.YtchooidhieaphaaGreatDoor
