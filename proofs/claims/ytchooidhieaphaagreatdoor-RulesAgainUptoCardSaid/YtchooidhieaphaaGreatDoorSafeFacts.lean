/- What a kept address begins with, and which element an address stands on: plain lists of bytes, no program. -/
import Derived.Test.YtchooidhieaphaaGreatDoorValueAll
import Derived.Test.YtchooidhieaphaaGreatDoorBegins
set_option linter.unusedVariables false
set_option linter.unusedSimpArgs false
namespace Go.Proofs.YtchooidhieaphaaGreatDoor
open Go.RowKit PRulesValues

theorem cut_one (l : List UInt8) (c : UInt8) : ((Lib.cut l [c]).2.2 = true → l = (Lib.cut l [c]).1 ++ c :: (Lib.cut l [c]).2.1) ∧ ((Lib.cut l [c]).2.2 = false → (Lib.cut l [c]).1 = l ∧ (Lib.cut l [c]).2.1 = []) := by
  unfold Lib.cut
  rcases Lib.index_spec l [c] with ⟨h, _⟩ | ⟨i, h, hi, ho, _⟩
  · rw [h, if_neg (by decide)]
    exact ⟨fun h => (by cases h), fun _ => ⟨rfl, rfl⟩⟩
  · rw [h, if_pos (by omega), Int.toNat_natCast]
    refine ⟨fun _ => ?_, fun h => (by cases h)⟩
    unfold Lib.occAt at ho
    cases hd : l.drop i with
    | nil => rw [hd] at ho; simp at ho
    | cons d r =>
      rw [hd] at ho
      have hdc : c = d := by simpa using ho
      subst hdc
      have h1 : l.drop (i + 1) = r := by
        have := congrArg (List.drop 1) hd
        simpa [List.drop_drop, Nat.add_comm] using this
      show l = l.take i ++ c :: l.drop (i + 1)
      rw [h1, ← hd, List.take_append_drop]
theorem smallB_colon : smallB 58 = 58 := by decide
theorem scheme_begins (v name : List UInt8) (h : schemeF v = (name, true)) : beginsF (cleanF v) (name ++ [58]) = true := by
  unfold schemeF schemeOf at h
  split at h
  · rename_i hh
    injection h with h _
    have hc := (cut_one (cleanF v) 58).1 hh.1
    generalize Lib.cut (cleanF v) [58] = X at h hc
    unfold beginsF
    rw [decide_eq_true_eq, hc]
    have hl : (name ++ [58]).length = (X.1 ++ [58]).length := by rw [← h]; simp
    have ht : (X.1 ++ 58 :: X.2.1).take (name ++ [58]).length = X.1 ++ [58] := by
      rw [hl, show X.1 ++ 58 :: X.2.1 = (X.1 ++ [58]) ++ X.2.1 by simp]
      exact List.take_left' rfl
    rw [ht, List.map_append, h]
    simp [smallB_colon]
  · injection h with _ h
    cases h
theorem kind_scheme (v : List UInt8) : (kindF v = 1 → schemeF v = ([104, 116, 116, 112], true)) ∧ (kindF v = 2 → schemeF v = ([104, 116, 116, 112, 115], true)) ∧ (kindF v = 3 → schemeF v = ([109, 97, 105, 108, 116, 111], true)) := by
  unfold kindF kindG
  obtain ⟨n, f⟩ := schemeF v
  cases f with
  | false => simp
  | true =>
    simp only [Bool.true_eq_false, if_false]
    refine ⟨fun h => ?_, fun h => ?_, fun h => ?_⟩
    · split at h
      · rename_i h1; rw [h1.1]
      · split at h
        · omega
        · split at h
          · omega
          · split at h <;> omega
    · split at h
      · omega
      · split at h
        · rename_i h1; rw [h1.1]
        · split at h
          · omega
          · split at h <;> omega
    · split at h
      · omega
      · split at h
        · omega
        · split at h
          · rename_i h1; rw [h1]
          · split at h <;> omega
/-- A kept link begins with one of three schemes. -/
theorem href_begins (v : List UInt8) (h : (hrefF v).2 = true) : beginsF (hrefF v).1 [104, 116, 116, 112, 58] = true ∨ beginsF (hrefF v).1 [104, 116, 116, 112, 115, 58] = true ∨ beginsF (hrefF v).1 [109, 97, 105, 108, 116, 111, 58] = true := by
  unfold hrefF at h ⊢
  split at h
  · rename_i hk
    rw [if_pos hk]
    obtain ⟨k1, k2, k3⟩ := kind_scheme v
    have : kindF v = 1 ∨ kindF v = 2 ∨ kindF v = 3 := by omega
    rcases this with h1 | h1 | h1
    · exact .inl (scheme_begins v _ (k1 h1))
    · exact .inr (.inl (scheme_begins v _ (k2 h1)))
    · exact .inr (.inr (scheme_begins v _ (k3 h1)))
  · cases h
theorem attr_href (e : List UInt8) (h : attrF e [104, 114, 101, 102] = true) : e = [97] := by
  unfold attrF ownWords at h
  have h1 : decide ([104, 114, 101, 102] ∈ allWords) = false := by decide
  rw [h1, Bool.false_or] at h
  by_cases he : e = [97]
  · exact he
  · exfalso
    rw [if_neg he] at h
    revert h
    repeat' split
    all_goals simp
theorem attr_src (e : List UInt8) (h : attrF e [115, 114, 99] = true) : e = [105, 109, 103] := by
  unfold attrF ownWords at h
  have h1 : decide ([115, 114, 99] ∈ allWords) = false := by decide
  rw [h1, Bool.false_or] at h
  by_cases he : e = [105, 109, 103]
  · exact he
  · exfalso
    revert h
    repeat' split
    all_goals simp_all
theorem attr_bad (e n : List UInt8) (h : attrF e n = true) : n ≠ [111, 110, 99, 108, 105, 99, 107] ∧ n ≠ [115, 114, 99, 115, 101, 116] ∧ n ≠ [98, 97, 99, 107, 103, 114, 111, 117, 110, 100] := by
  refine ⟨?_, ?_, ?_⟩
  all_goals
    intro hn
    subst hn
    unfold attrF ownWords at h
    revert h
    repeat' split
    all_goals simp [allWords]
theorem value_attr {b1 b2 : Bool} {l : List S39} {e n v : List UInt8} (h : (valueF b1 b2 l e n v).2 = true) : attrF e n = true ∧ (judgeF b1 b2 l (methOf n) v).2 = true ∧ (valueF b1 b2 l e n v).1 = (judgeF b1 b2 l (methOf n) v).1 := by
  unfold valueF at h ⊢
  split at h
  · rename_i h1
    split at h
    · rename_i h2
      rw [if_pos h1, if_pos h2]
      exact ⟨h1, h2, rfl⟩
    · cases h
  · cases h
/-- A kept source: an attached image by its number, or a safe address where the policy lets it. -/
theorem src_begins (b : Bool) (l : List S39) (v : List UInt8) (h : (srcF b l v).2 = true) :
    (b = true ∧ beginsF (srcF b l v).1 [104, 116, 116, 112, 115, 58] = true) ∨ (∃ i x, l[i]? = some x ∧ (srcF b l v).1 = attB ++ Lib.itoa (i : Nat) ∧ beginsF x.f1.data.toList [105, 109, 97, 103, 101, 47] = true) := by
  unfold srcF at h ⊢
  split at h
  · rename_i hk
    rw [if_pos hk]
    exact .inl ⟨hk.2, scheme_begins v _ ((kind_scheme v).2.1 hk.1)⟩
  · rename_i hk
    rw [if_neg hk]
    right
    unfold srcG at h ⊢
    split at h
    · rename_i hn
      rw [if_pos hn]
      obtain ⟨h0, h1, h2⟩ := hn
      obtain ⟨i, hi⟩ : ∃ i : Nat, srcN l v = (i : Int) := ⟨(srcN l v).toNat, by omega⟩
      rw [hi] at h1 h2 ⊢
      have hil : i < l.length := by omega
      refine ⟨i, l[i], List.getElem?_eq_getElem hil, rfl, ?_⟩
      have hr : rd_T39 l (i : Int) = l[i] := by
        show l.getD (i : Int).toNat z39 = _
        rw [List.getD_eq_getElem?_getD, Int.toNat_natCast, List.getElem?_eq_getElem hil]
        rfl
      rw [hr] at h2
      unfold Lib.hasPrefix at h2
      have hp := List.isPrefixOf_iff_prefix.1 h2
      unfold beginsF
      rw [decide_eq_true_eq]
      obtain ⟨t, ht⟩ := hp
      rw [← ht, List.take_left' rfl]
      decide
    · cases h
end Go.Proofs.YtchooidhieaphaaGreatDoor
