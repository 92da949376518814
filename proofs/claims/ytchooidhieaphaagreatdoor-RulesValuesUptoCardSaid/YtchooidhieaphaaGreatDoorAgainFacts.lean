/- What rules.Value keeps it keeps again (links): plain lists of bytes, no program. -/
import Derived.Test.YtchooidhieaphaaGreatDoorSafeFacts
set_option linter.unusedVariables false
set_option linter.unusedSimpArgs false
namespace Go.Proofs.YtchooidhieaphaaGreatDoor
open Go.RowKit PRulesValues
/-- A number's text holds digits alone. -/
theorem dec_digits : ∀ (u : Nat), (Lib.decDigits u).all (fun c => digitB c) = true := by
  intro u
  induction u using Nat.strongRecOn with
  | _ u ih =>
  have hd : ∀ q : Nat, q < 10 → digitB (UInt8.ofNat (48 + q)) = true := by decide
  rw [Lib.decDigits]
  split
  · rename_i h
    simp only [List.all_cons, List.all_nil, Bool.and_true]
    exact hd u h
  · rw [List.all_append, ih (u / 10) (by omega)]
    simp only [List.all_cons, List.all_nil, Bool.and_true, Bool.true_and]
    exact hd (u % 10) (by omega)
theorem parse_dec : ∀ (u : Nat), u < 1844674407370955162 → Lib.parseUint10 0 (Lib.decDigits u) = .ok u := by
  have hap : ∀ (l : List UInt8) (acc r q : Nat), Lib.parseUint10 acc l = .ok r → q < 10 → r < 184467440737095517 → Lib.parseUint10 acc (l ++ [UInt8.ofNat (48 + q)]) = .ok (r * 10 + q) := by
    intro l
    induction l with
    | nil =>
      intro acc r q h hq hr
      simp only [Lib.parseUint10] at h
      injection h with h
      subst h
      have hn : (UInt8.ofNat (48 + q)).toNat = 48 + q := by rw [UInt8.toNat_ofNat']; omega
      simp only [List.nil_append, Lib.parseUint10, hn]
      rw [if_pos (by omega), if_neg (by omega), if_neg (by omega)]
      congr 1
      omega
    | cons c l ih =>
      intro acc r q h hq hr
      simp only [List.cons_append, Lib.parseUint10] at h ⊢
      split at h
      · rename_i h1
        rw [if_pos h1]
        split at h
        · cases h
        · rename_i h2
          rw [if_neg h2]
          split at h
          · cases h
          · rename_i h3
            rw [if_neg h3]
            exact ih _ r q h hq hr
      · cases h
  intro u
  induction u using Nat.strongRecOn with
  | _ u ih =>
  intro hu
  rw [Lib.decDigits]
  split
  · rename_i h
    have hn : (UInt8.ofNat (48 + u)).toNat = 48 + u := by rw [UInt8.toNat_ofNat']; omega
    simp only [Lib.parseUint10, hn]
    rw [if_pos (by omega), if_neg (by omega), if_neg (by omega)]
    congr 1
    omega
  · have := hap (Lib.decDigits (u / 10)) 0 (u / 10) (u % 10) (ih (u / 10) (by omega) (by omega)) (by omega) (by omega)
    rw [this]
    congr 1
    omega
theorem dec_ne (u : Nat) : Lib.decDigits u ≠ [] := by
  rw [Lib.decDigits]
  split <;> simp
/-- What Itoa writes Atoi reads. -/
theorem atoi_itoa (n : Nat) (hn : n < 1844674407370955162) : atoiF (Lib.itoa (n : Int)) = some (n : Int) := by
  have hi : Lib.itoa (n : Int) = Lib.decDigits n := by
    unfold Lib.itoa
    rw [if_neg (by omega), Int.toNat_natCast]
  rw [hi]
  have hp := parse_dec n hn
  have hall := dec_digits n
  have hne := dec_ne n
  unfold atoiF
  cases hd : Lib.decDigits n with
  | nil => exact absurd hd hne
  | cons c r =>
    rw [hd] at hp hall
    rw [List.all_cons, Bool.and_eq_true] at hall
    have hc : 48 ≤ c.toNat ∧ c.toNat ≤ 57 := by simpa [digitB] using hall.1
    have hm : Lib.parseMag (c :: r) = .ok n := by
      unfold Lib.parseMag
      rw [if_neg (by simp)]
      exact hp
    have ha : Lib.atoiAll (c :: r) = .ok (n : Int) := by
      simp only [Lib.atoiAll]
      rw [if_neg (show ¬ (c.toNat = 43 ∨ c.toNat = 45) by omega), hm]
      simp only
      rw [if_neg (by omega), if_neg (by omega), if_neg (by omega)]
    rw [ha]
theorem att_pre (d : List UInt8) : Lib.hasPrefix (attB ++ d) attB = true := by
  unfold Lib.hasPrefix
  exact List.isPrefixOf_iff_prefix.2 (List.prefix_append _ _)
end Go.Proofs.YtchooidhieaphaaGreatDoor
