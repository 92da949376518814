/- A cleaned style cleans to itself: plain lists of bytes, no program. -/
import Derived.Test.YtchooidhieaphaaGreatDoorAgainFacts
set_option linter.unusedVariables false
set_option linter.unusedSimpArgs false
namespace Go.Proofs.YtchooidhieaphaaGreatDoor
open Go.RowKit PRulesValues
theorem index_at : ∀ (l q : List UInt8) (c : UInt8), c ∉ l → Lib.index (l ++ c :: q) [c] = (l.length : Int)
  | [], q, c, _ => by simp [Lib.index]
  | a :: l, q, c, h => by
    have hne : ¬ c = a := fun e => h (by simp [e])
    have ih := index_at l q c (fun hm => h (List.mem_cons_of_mem _ hm))
    rw [List.cons_append]
    unfold Lib.index
    have hp : ([c] : List UInt8).isPrefixOf (a :: (l ++ c :: q)) = false := by
      show (c == a && ([] : List UInt8).isPrefixOf (l ++ c :: q)) = false
      rw [beq_eq_false_iff_ne.2 hne]
      rfl
    rw [hp, ih]
    simp only [Bool.false_eq_true, if_false]
    have : ((l.length : Int) == -1) = false := beq_eq_false_iff_ne.2 (by omega)
    rw [this]
    simp
theorem cut_at (l q : List UInt8) (c : UInt8) (h : c ∉ l) : Lib.cut (l ++ c :: q) [c] = (l, q, true) := by
  unfold Lib.cut
  rw [index_at l q c h, if_pos (by omega), Int.toNat_natCast, List.take_left' rfl]
  have : (l ++ c :: q).drop (l.length + [c].length) = q := by
    rw [show l ++ c :: q = (l ++ [c]) ++ q by simp]
    exact List.drop_left' (by rw [List.length_append])
  rw [this]
theorem dropWhile_nil (p : UInt8 → Bool) : ∀ (l : List UInt8), l.dropWhile p = [] → ∀ c ∈ l, p c = true
  | [], _, c, hc => by cases hc
  | a :: l, h, c, hc => by
    cases ha : p a with
    | true =>
      rw [List.dropWhile_cons_of_pos ha] at h
      rcases List.mem_cons.1 hc with rfl | hc
      · exact ha
      · exact dropWhile_nil p l h c hc
    | false =>
      rw [List.dropWhile_cons_of_neg (by simp [ha])] at h
      cases h
theorem mem_take (p : UInt8 → Bool) : ∀ (l : List UInt8), ∀ c ∈ l.takeWhile p, p c = true
  | [], c, hc => by cases hc
  | a :: l, c, hc => by
    cases ha : p a with
    | true =>
      rw [List.takeWhile_cons_of_pos ha] at hc
      rcases List.mem_cons.1 hc with rfl | hc
      · exact ha
      · exact mem_take p l c hc
    | false =>
      rw [List.takeWhile_cons_of_neg (by simp [ha])] at hc
      cases hc
theorem trim_none (v cs : List UInt8) (h : Lib.trimS v cs = []) : ∀ c ∈ v, c ∈ cs := by
  unfold Lib.trimS Lib.trimLeftS at h
  have hr : ∀ c ∈ Lib.trimRightS v cs, c ∈ cs := by
    intro c hc
    have := dropWhile_nil _ _ h c hc
    simpa using this
  unfold Lib.trimRightS at hr
  intro c hc
  have hs : v.reverse = v.reverse.takeWhile (fun x => cs.contains x) ++ v.reverse.dropWhile (fun x => cs.contains x) := (List.takeWhile_append_dropWhile).symm
  have hc2 : c ∈ v.reverse := by simpa using hc
  rw [hs] at hc2
  rcases List.mem_append.1 hc2 with h1 | h1
  · have := mem_take _ _ c h1
    simpa using this
  · exact hr c (by simpa using h1)
end Go.Proofs.YtchooidhieaphaaGreatDoor
