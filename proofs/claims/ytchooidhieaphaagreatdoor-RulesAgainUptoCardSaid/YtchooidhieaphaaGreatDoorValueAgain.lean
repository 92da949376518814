/- What rules.Value keeps it keeps again, at every name: plain lists of bytes, no program. -/
import Derived.Test.YtchooidhieaphaaGreatDoorCssAgain
set_option linter.unusedVariables false
set_option linter.unusedSimpArgs false
namespace Go.Proofs.YtchooidhieaphaaGreatDoor
open Go.RowKit PRulesValues

theorem judge_again (b1 b2 : Bool) (l : List S39) (m : Nat) (v : List UInt8) (hl : l.length < 4294967296) (h : (judgeF b1 b2 l m v).2 = true) : judgeF b1 b2 l m (judgeF b1 b2 l m v).1 = ((judgeF b1 b2 l m v).1, true) := by
  unfold judgeF at h ⊢
  by_cases h1 : m = 23
  · simp only [if_pos h1] at h ⊢
    exact href_again v h
  · by_cases h2 : m = 24
    · simp only [if_neg h1, if_pos h2] at h ⊢
      exact (src_again b1 l v hl h).1
    · by_cases h3 : m = 25
      · simp only [if_neg h1, if_neg h2, if_pos h3] at h ⊢
        exact style_again b2 v h
      · by_cases h4 : m = 26
        · simp only [if_neg h1, if_neg h2, if_neg h3, if_pos h4] at h ⊢
          exact Prod.ext rfl h
        · by_cases h5 : m = 27
          · simp only [if_neg h1, if_neg h2, if_neg h3, if_neg h4, if_pos h5] at h ⊢
            exact Prod.ext rfl h
          · by_cases h6 : m = 28
            · simp only [if_neg h1, if_neg h2, if_neg h3, if_neg h4, if_neg h5, if_pos h6] at h ⊢
            · simp only [if_neg h1, if_neg h2, if_neg h3, if_neg h4, if_neg h5, if_neg h6] at h ⊢
              exact Prod.ext rfl h
theorem value_again (b1 b2 : Bool) (l : List S39) (e n v : List UInt8) (hl : l.length < 4294967296) (h : (valueF b1 b2 l e n v).2 = true) :
    valueF b1 b2 l e n (valueF b1 b2 l e n v).1 = ((valueF b1 b2 l e n v).1, true) ∧ blockF b1 e n (valueF b1 b2 l e n v).1 = false ∧ attrF e n = true := by
  obtain ⟨ha, hj, hv⟩ := value_attr h
  rw [hv]
  have hag := judge_again b1 b2 l (methOf n) v hl hj
  refine ⟨?_, ?_, ha⟩
  · unfold valueF
    rw [if_pos ha, hag, if_pos rfl]
  · unfold blockF blockG
    by_cases hc : e = [105, 109, 103] ∧ n = [115, 114, 99]
    · rw [if_pos hc]
      have hm : methOf n = 24 := by rw [hc.2]; decide
      rw [hm] at hj ⊢
      have hs : (srcF b1 l v).2 = true := hj
      show (if kindF (srcF b1 l v).1 = 0 then _ else if kindF (srcF b1 l v).1 = 1 then true else if kindF (srcF b1 l v).1 = 2 then !b1 else false) = false
      rcases (src_again b1 l v hl hs).2 with ⟨h1, h2⟩ | h1
      · rw [h1, if_neg (by decide), if_neg (by decide), if_pos rfl, h2]; rfl
      · rw [h1, if_neg (by decide), if_neg (by decide), if_neg (by decide)]
    · rw [if_neg hc]
theorem last_len : ∀ (r : List (List UInt8 × List UInt8)), (lastF r).length ≤ r.length
  | [] => Nat.le_refl _
  | d :: r => by
    have ih := last_len r
    unfold lastF
    rw [List.length_append, List.length_cons]
    split <;> simp <;> omega
theorem decls_len : ∀ (n : Nat) (l : List UInt8), l.length = n → (declsF l).length ≤ l.length + 1 := by
  intro n
  induction n using Nat.strongRecOn with
  | _ n ih =>
  intro l hl
  rw [declsF, List.length_append]
  have h1 : (declF (l.take (endF l))).length ≤ 1 := by unfold declF; split <;> simp
  split
  · have := ih (l.drop (endF l + 1)).length (by rw [List.length_drop]; omega) _ rfl
    rw [List.length_drop] at this
    omega
  · simp; omega
theorem css_len (v : List UInt8) : (cssF v).length ≤ (v.length + 1) * 124 := by
  unfold cssF
  have h1 := join_len ((lastF (keptF v)).map lineF) [59, 32] 122 (fun x hx => by
    obtain ⟨d, hd, rfl⟩ := List.mem_map.1 hx
    have := safeF_sizes (good_last v d hd).safe
    unfold lineF
    simp only [List.length_append, List.length_cons, List.length_nil]
    omega)
  rw [List.length_map] at h1
  have h2 := last_len (keptF v)
  have h3 : (keptF v).length ≤ (declsF v).length := List.length_filter_le _ _
  have h4 := decls_len _ v rfl
  have h5 : (lastF (keptF v)).length * (122 + 2) ≤ (v.length + 1) * 124 := Nat.mul_le_mul (by omega) (Nat.le_refl _)
  exact Nat.le_trans h1 h5
theorem value_len (b1 b2 : Bool) (l : List S39) (e n v : List UInt8) (hl : l.length < 4294967296) : (valueF b1 b2 l e n v).1.length ≤ (v.length + 1) * 124 := by
  unfold valueF
  split
  · split
    · show (judgeF b1 b2 l (methOf n) v).1.length ≤ _
      unfold judgeF
      repeat' split
      · unfold hrefF; split
        · exact Nat.le_trans (cleanF_le v) (by omega)
        · simp
      · unfold srcF srcG; split
        · exact Nat.le_trans (cleanF_le v) (by omega)
        · split
          · rename_i hh
            have := Lib.itoa_length_le (srcN l v) (by omega) (by have := hh.2.1; omega)
            have h4 : attB.length = 4 := rfl
            simp only [List.length_append]
            omega
          · simp
      · exact css_len v
      · show v.length ≤ _; omega
      · show v.length ≤ _; omega
      · show v.length ≤ _; omega
      · show v.length ≤ _; omega
    · simp
  · simp
end Go.Proofs.YtchooidhieaphaaGreatDoor
