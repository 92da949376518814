/- When a blank-fenced word stands in a text of blank-fenced words: plain lists of bytes, no program. -/
/-
  Plain lists: where a text lies in another one; words between blanks. No program.
-/
import Derived.Lib.IndexMore
namespace Go.Proofs.YtchooidhieaphaaGreatDoor
open Go

/-- Does sub lie somewhere in the text? -/
def has : List UInt8 → List UInt8 → Bool
  | [], sub => sub.isEmpty
  | b :: l, sub => sub.isPrefixOf (b :: l) || has l sub

theorem index_has : ∀ (l sub : List UInt8), (0 ≤ Lib.index l sub ↔ has l sub = true) ∧ -1 ≤ Lib.index l sub
  | [], sub => by
    unfold Lib.index has
    cases sub.isEmpty <;> simp
  | b :: l, sub => by
    have ih := index_has l sub
    unfold Lib.index has
    by_cases h : sub.isPrefixOf (b :: l) = true
    · simp [h]
    · rw [if_neg h]
      replace h : sub.isPrefixOf (b :: l) = false := Bool.eq_false_iff.2 h
      rw [h, Bool.false_or]
      by_cases h1 : Lib.index l sub = -1
      · simp only [h1, beq_self_eq_true, if_true]
        have : ¬ has l sub = true := fun e => by have := ih.1.2 e; omega
        simp [this]
      · have h2 : (Lib.index l sub == -1) = false := by simpa using h1
        rw [h2]
        simp only [Bool.false_eq_true, if_false]
        have h3 : 0 ≤ Lib.index l sub := by omega
        exact ⟨⟨fun _ => ih.1.1 h3, fun _ => by omega⟩, by omega⟩

theorem contains_has (l sub : List UInt8) : Lib.contains l sub = has l sub := by
  unfold Lib.contains
  rw [Bool.eq_iff_iff, decide_eq_true_eq]
  exact (index_has l sub).1

theorem has_one (l : List UInt8) (c : UInt8) : has l [c] = l.contains c := by
  induction l with
  | nil => rfl
  | cons b l ih =>
    unfold has
    rw [ih, List.contains_cons]
    simp [List.isPrefixOf]

/-- Words, each with a blank behind it. -/
def spread : List (List UInt8) → List UInt8
  | [] => []
  | w :: ws => w ++ 32 :: spread ws

/-- A blank ahead of what stands behind a word without blanks. -/
theorem has_skip (w l n : List UInt8) (hw : (32 : UInt8) ∉ w) : has (w ++ 32 :: l) (32 :: n) = has (32 :: l) (32 :: n) := by
  induction w with
  | nil => rfl
  | cons b w ih =>
    simp only [List.mem_cons, not_or] at hw
    have hb : ((32 : UInt8) == b) = false := by simpa using hw.1
    show ((32 :: n).isPrefixOf (b :: (w ++ 32 :: l)) || has (w ++ 32 :: l) (32 :: n)) = _
    rw [ih hw.2]
    simp [List.isPrefixOf, hb]

theorem prefix_word : ∀ (n w l : List UInt8), (32 : UInt8) ∉ n → (32 : UInt8) ∉ w → ((n ++ [32]).isPrefixOf (w ++ 32 :: l) = decide (n = w))
  | [], [], l, _, _ => by simp [List.isPrefixOf]
  | [], b :: w, l, _, hw => by
    simp only [List.mem_cons, not_or] at hw
    have hb : ((32 : UInt8) == b) = false := by simpa using hw.1
    simp [List.isPrefixOf, hb]
  | a :: n, [], l, hn, _ => by
    simp only [List.mem_cons, not_or] at hn
    have ha : (a == (32 : UInt8)) = false := by simpa using fun e => hn.1 e.symm
    simp [List.isPrefixOf, ha]
  | a :: n, b :: w, l, hn, hw => by
    simp only [List.mem_cons, not_or] at hn hw
    have ih := prefix_word n w l hn.2 hw.2
    simp only [List.cons_append, List.isPrefixOf, ih]
    by_cases e : a = b
    · subst e; simp
    · simp [e]

theorem has_words (n : List UInt8) (hn : (32 : UInt8) ∉ n) (hne : n ≠ []) : ∀ ws : List (List UInt8), (∀ w ∈ ws, (32 : UInt8) ∉ w) → has (32 :: spread ws) (32 :: (n ++ [32])) = decide (n ∈ ws)
  | [], _ => by
    cases n with
    | nil => exact absurd rfl hne
    | cons a n =>
      simp [spread, has, List.isPrefixOf]
  | w :: ws, h => by
    have ih := has_words n hn hne ws (fun x hx => h x (List.mem_cons_of_mem _ hx))
    have hw := h w (List.mem_cons_self ..)
    show ((32 :: (n ++ [32])).isPrefixOf (32 :: (w ++ 32 :: spread ws)) || has (w ++ 32 :: spread ws) (32 :: (n ++ [32]))) = _
    rw [has_skip w _ _ hw, ih]
    simp only [List.isPrefixOf, beq_self_eq_true, Bool.true_and]
    rw [prefix_word n w _ hn hw]
    by_cases e : n = w <;> simp [e]

/-- What rules.is tells: a name that is one of some. -/
def isF (all name : List UInt8) : Bool := !name.isEmpty && (!(has name [32]) && has all (32 :: (name ++ [32])))

theorem isF_words (ws : List (List UInt8)) (hws : ∀ w ∈ ws, (32 : UInt8) ∉ w ∧ w ≠ []) (name : List UInt8) : isF (32 :: spread ws) name = decide (name ∈ ws) := by
  unfold isF
  rw [has_one]
  by_cases h0 : name = []
  · subst h0
    have : ([] : List UInt8) ∉ ws := fun h => (hws _ h).2 rfl
    simp [this]
  · by_cases h1 : (32 : UInt8) ∈ name
    · have : name ∉ ws := fun h => (hws _ h).1 h1
      simp [h1, this]
    · rw [has_words name h1 h0 ws (fun w hw => (hws w hw).1)]
      simp [h0, h1]
end Go.Proofs.YtchooidhieaphaaGreatDoor
