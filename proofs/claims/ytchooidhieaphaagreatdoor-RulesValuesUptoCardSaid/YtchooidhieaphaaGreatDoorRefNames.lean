/- The document's Element and Attr return elemF and attrF, for every text. -/
/-
  The document's Element and Attr tell elemF and attrF: over the printed functions.
-/
import Derived.Test.YtchooidhieaphaaGreatDoorAttrAll
import Derived.Test.YtchooidhieaphaaGreatDoorR5
set_option linter.unusedVariables false
set_option linter.unusedSimpArgs false
namespace Go.Proofs.YtchooidhieaphaaGreatDoor
open Go.RowKit Go.Proofs.YtchooidhieaphaaGreatDoor.PRulesValues Go.Proofs.YtchooidhieaphaaGreatDoorW.PrintWords
theorem refRaw (s : ByteArray) : muslinref13_Raw.f s = some (decide (s.toList ∈ rawWords)) := by
  generalize hl : s.toList = l
  by_cases h : l ∈ rawWords
  · rw [decide_eq_true h]
    unfold muslinref13_Raw.f
    rw [hl]
    simp only [rawWords, List.mem_cons, List.not_mem_nil, or_false] at h
    rcases h with rfl | rfl | rfl | rfl | rfl | rfl | rfl | rfl | rfl | rfl <;> decide +kernel
  · rw [decide_eq_false h]
    unfold muslinref13_Raw.f
    rw [hl]
    simp only [rawWords, List.mem_cons, List.not_mem_nil, or_false, not_or] at h
    simp only [h, if_false]
theorem refElem (s : ByteArray) : muslinref18_Element.f 2 s = some (elemF s.toList) := by
  have hr := refRaw s
  generalize hl : s.toList = l at hr ⊢
  by_cases h : l ∈ stayWords
  · unfold elemF
    rw [if_pos h]
    unfold muslinref18_Element.f
    rw [hl]
    simp only [stayWords, List.mem_cons, List.not_mem_nil, or_false] at h
    rcases h with rfl | rfl | rfl | rfl | rfl | rfl | rfl | rfl | rfl | rfl | rfl | rfl | rfl | rfl | rfl | rfl | rfl | rfl | rfl | rfl | rfl | rfl | rfl | rfl | rfl | rfl | rfl | rfl | rfl | rfl | rfl <;> simp [muslinref18_Element.j0]
  · unfold elemF
    rw [if_neg h]
    unfold muslinref18_Element.f
    rw [hl]
    simp only [stayWords, List.mem_cons, List.not_mem_nil, or_false, not_or] at h
    simp only [h, if_false]
    have hb : ∀ x, ¬ l = x → (l == x) = false := fun x hx => by simpa using hx
    simp only [hb _ (by simp only [h, not_false_eq_true] : ¬ l = [117, 108])]
    simp only [muslinref18_Element.j0, hl, Bool.false_eq_true, if_false]
    by_cases h2 : l ∈ dropWords
    · have hE : (if l ∈ dropWords ∨ l ∈ rawWords then (0 : Int) else 1) = 0 := if_pos (.inl h2)
      rw [hE]
      clear hE
      simp only [dropWords, List.mem_cons, List.not_mem_nil, or_false] at h2
      clear h hb
      rcases h2 with rfl | rfl | rfl | rfl | rfl | rfl | rfl | rfl | rfl | rfl | rfl | rfl | rfl | rfl | rfl | rfl | rfl | rfl | rfl | rfl | rfl <;> simp [muslinref18_Element.j1]
    · have h2' := h2
      simp only [dropWords, List.mem_cons, List.not_mem_nil, or_false, not_or] at h2
      simp only [h2, if_false, Bool.false_eq_true]
      simp only [hb _ (by simp only [h2, not_false_eq_true] : ¬ l = [118, 105, 100, 101, 111])]
      simp only [muslinref18_Element.j1, hr, Bool.false_eq_true, if_false]
      by_cases h3 : l ∈ rawWords
      · simp [h3]
      · simp [h3, h2']
theorem own_href (e : List UInt8) : decide ([104, 114, 101, 102] ∈ ownWords e) = (e == [97]) := by
  unfold ownWords
  by_cases h1 : e = [97]
  · subst h1; rfl
  · rw [if_neg h1]
    have h0 : (e == [97]) = false := by simpa using h1
    rw [h0, decide_eq_false_iff_not]
    split
    · decide
    · split
      · decide
      · split <;> decide
theorem own_img (e n : List UInt8) (hn : n = [115, 114, 99] ∨ n = [97, 108, 116] ∨ n = [119, 105, 100, 116, 104] ∨ n = [104, 101, 105, 103, 104, 116]) : decide (n ∈ ownWords e) = (e == [105, 109, 103]) := by
  unfold ownWords
  by_cases h1 : e = [105, 109, 103]
  · subst h1
    rcases hn with rfl | rfl | rfl | rfl <;> rfl
  · have h0 : (e == [105, 109, 103]) = false := by simpa using h1
    rw [h0, decide_eq_false_iff_not]
    rcases hn with rfl | rfl | rfl | rfl
    all_goals
      split
      · decide
      · split
        · decide
        · split <;> decide
theorem own_start (e : List UInt8) : decide ([115, 116, 97, 114, 116] ∈ ownWords e) = (e == [111, 108]) := by
  unfold ownWords
  by_cases h1 : e = [111, 108]
  · subst h1; rfl
  · have h0 : (e == [111, 108]) = false := by simpa using h1
    rw [h0, decide_eq_false_iff_not]
    split
    · decide
    · split
      · decide
      · split <;> decide
theorem own_value (e : List UInt8) : decide ([118, 97, 108, 117, 101] ∈ ownWords e) = (e == [108, 105]) := by
  unfold ownWords
  by_cases h1 : e = [108, 105]
  · subst h1; rfl
  · have h0 : (e == [108, 105]) = false := by simpa using h1
    rw [h0, decide_eq_false_iff_not]
    split
    · decide
    · split
      · decide
      · split
        · decide
        · decide
theorem own_sub (e : List UInt8) (n : List UInt8) (h : n ∈ ownWords e) : n ∈ [[104, 114, 101, 102], [115, 114, 99], [97, 108, 116], [119, 105, 100, 116, 104], [104, 101, 105, 103, 104, 116], [115, 116, 97, 114, 116], [118, 97, 108, 117, 101]] := by
  unfold ownWords at h
  split at h
  · simp at h; subst h; decide
  · split at h
    · simp at h; rcases h with rfl | rfl | rfl | rfl <;> decide
    · split at h
      · simp at h; subst h; decide
      · split at h
        · simp at h; subst h; decide
        · cases h
theorem refAttr (s a : ByteArray) : muslinref18_Attr.f 2 s a = some (attrF s.toList a.toList) := by
  unfold muslinref18_Attr.f attrF
  rw [refElem]
  simp only [Option.bind_some]
  by_cases h1 : elemF s.toList = 2
  · rw [if_pos h1, decide_eq_true h1, Bool.true_and]
    clear h1
    generalize hl : a.toList = n
    generalize he : s.toList = e
    by_cases h2 : n ∈ allWords
    · rw [decide_eq_true h2, Bool.true_or]
      simp only [allWords, List.mem_cons, List.not_mem_nil, or_false] at h2
      rcases h2 with rfl | rfl | rfl | rfl <;> simp [muslinref18_Attr.j0]
    · rw [decide_eq_false h2, Bool.false_or]
      simp only [allWords, List.mem_cons, List.not_mem_nil, or_false, not_or] at h2
      simp only [h2, if_false]
      have hb : ∀ x, ¬ n = x → (n == x) = false := fun x hx => by simpa using hx
      simp only [hb _ (by simp only [h2, not_false_eq_true] : ¬ n = [115, 116, 121, 108, 101])]
      simp only [muslinref18_Attr.j0, hl, he, Bool.false_eq_true, if_false]
      by_cases c1 : n = [104, 114, 101, 102]
      · rw [if_pos c1, c1, own_href]
      · by_cases c2 : n = [115, 114, 99] ∨ n = [97, 108, 116] ∨ n = [119, 105, 100, 116, 104] ∨ n = [104, 101, 105, 103, 104, 116]
        · rw [if_neg c1, own_img e n c2]
          clear h2 hb c1
          rcases c2 with rfl | rfl | rfl | rfl <;> simp [muslinref18_Attr.j1, he]
        · simp only [not_or] at c2
          simp only [c1, c2, if_false, hb _ c2.2.2.2]
          simp only [muslinref18_Attr.j1, hl, he, Bool.false_eq_true, if_false]
          by_cases c3 : n = [115, 116, 97, 114, 116]
          · rw [if_pos c3, c3, own_start]
          · rw [if_neg c3]
            by_cases c4 : n = [118, 97, 108, 117, 101]
            · rw [if_pos c4, c4, own_value]
            · rw [if_neg c4]
              have : ¬ n ∈ ownWords e := fun h => by
                have := own_sub e n h
                simp [c1, c2, c3, c4] at this
              rw [decide_eq_false this]
  · rw [if_neg h1, decide_eq_false h1, Bool.false_and]
theorem refAttr_any (s a : ByteArray) (w : World) : Calls Tryz.prog 11 #[.string s, .string a] w fun e w' => e = .returned (.bool (attrF s.data.toList a.data.toList)) ∧ ∃ n, w' = w.drewN n :=
  (muslinref18_Attr.calls 2 s a _ w (refAttr s a)).mono fun _ _ h => ⟨by rw [h.1, ByteArray.toList_eq, ByteArray.toList_eq], h.2.out⟩
end Go.Proofs.YtchooidhieaphaaGreatDoor
