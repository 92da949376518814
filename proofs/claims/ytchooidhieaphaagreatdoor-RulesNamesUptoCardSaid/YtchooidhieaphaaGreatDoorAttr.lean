/- rules.Attr returns what attrF says. Condition: texts below 2^32 - 15 bytes. -/
/-
  The walk of rules.Attr: it tells attrF.
-/
import Derived.Test.YtchooidhieaphaaGreatDoorNames
import Derived.Test.YtchooidhieaphaaGreatDoorMaps
set_option linter.unusedVariables false
set_option linter.unusedSimpArgs false
namespace Go.Proofs.YtchooidhieaphaaGreatDoor
open Go.RowKit

theorem law9 : Go.Maps.Keyed Tryz.prog 9 := Go.Maps.string_keyed Tryz.underlying9
theorem zero9 (w : World) : (zeroValue 9).run Tryz.prog w = .ok (.string ⟨#[]⟩) w := by kernel_rfl
theorem key9 {s : ByteArray} (h : s.size < 4294967281) : keyOf Tryz.prog 9 (.string s) = some (.string s.data.toList) := WideMaps.keyOf_string_mk Tryz.underlying9 (by unfold maxLen; omega)
theorem beq_no {s : ByteArray} {l : List UInt8} (h : ¬ s.data.toList = l) : (s.toList == l) = false := by
  rw [ByteArray.toList_eq]; simpa using h
theorem beq_yes {s : ByteArray} {l : List UInt8} (h : s.data.toList = l) : (s.toList == l) = true := by
  rw [ByteArray.toList_eq]; simpa using h
def ownL : List (List UInt8 × Value) := [([97], .string ⟨#[32, 104, 114, 101, 102, 32]⟩), ([105, 109, 103], .string ⟨#[32, 115, 114, 99, 32, 97, 108, 116, 32, 119, 105, 100, 116, 104, 32, 104, 101, 105, 103, 104, 116, 32]⟩), ([111, 108], .string ⟨#[32, 115, 116, 97, 114, 116, 32]⟩), ([108, 105], .string ⟨#[32, 118, 97, 108, 117, 101, 32]⟩)]

theorem look_own (l : List UInt8) : lookL ownL l (.string ⟨#[]⟩) = .string ⟨(ownText l).toArray⟩ := by
  unfold lookL ownL ownText
  simp only [List.foldl_cons, List.foldl_nil]
  by_cases h1 : l = [97]
  · subst h1; rfl
  · by_cases h2 : l = [105, 109, 103]
    · subst h2; rfl
    · by_cases h3 : l = [111, 108]
      · subst h3; rfl
      · by_cases h4 : l = [108, 105]
        · subst h4; rfl
        · simp only [if_neg h1, if_neg h2, if_neg h3, if_neg h4]
theorem ownText_size (l : List UInt8) : (⟨(ownText l).toArray⟩ : ByteArray).size < 4294967281 := by
  unfold ownText
  split
  · decide
  · split
    · decide
    · split
      · decide
      · split <;> decide

set_option maxRecDepth 100000 in
set_option maxHeartbeats 400000 in
theorem attr_own (e n : ByteArray) (w : World) (hG : Good w) (he : e.size < 4294967281) (hn : n.size < 4294967281) (h1 : elemF e.data.toList = 2) (h2 : ¬ n.data.toList ∈ allWords) :
    Calls Tryz.prog 10 #[.string e, .string n] w fun ee w' => ee = .returned (.bool (attrF e.data.toList n.data.toList)) ∧ Below w.heap.size w w' := by
  have HE := Lib.hid (element_any e w hG he)
  rw [h1] at HE
  have hfin := Lib.hid (show attrF e.data.toList n.data.toList = isF (ownText e.data.toList) n.data.toList by rw [ownText_any]; unfold attrF; simp [h1, h2])
  clear h1
  have HG := Lib.hid hG
  clear hG
  have hmm := @run_makeMap Tryz.prog
  simp only [allWords, List.mem_cons, List.not_mem_nil, or_false, not_or] at h2
  obtain ⟨n1, n2, n3, n4⟩ := h2
  replace n1 := beq_no n1
  replace n2 := beq_no n2
  replace n3 := beq_no n3
  replace n4 := beq_no n4
  have HK := Lib.hid (key9 he)
  go_enter Tryz.func10, Tryz.ntmps10
  go_wp2_with fail
  refine HE.out.mono ?_
  rintro _ _ ⟨rfl, rfl⟩
  go_wp2_with (first
    | ((with_reducible refine wpList_insert_L rfl _ _ _ 41 rfl 9 9 law9 Tryz.underlying41 w.heap.size [] rfl (ownsL_made w Tryz.prog 9) (by decide) (.string ⟨#[97]⟩) (.string ⟨#[32, 104, 114, 101, 102, 32]⟩) [97] rfl rfl (by kernel_rfl) ?_); intro w1 ho hg1; have ho1 : ownsL Tryz.prog 9 w1 w.heap.size [([97], .string ⟨#[32, 104, 114, 101, 102, 32]⟩)] := ho; clear ho)
    | ((with_reducible refine wpList_insert_L rfl _ _ _ 41 rfl 9 9 law9 Tryz.underlying41 w.heap.size [([97], .string ⟨#[32, 104, 114, 101, 102, 32]⟩)] rfl ho1 (by decide) (.string ⟨#[105, 109, 103]⟩) (.string ⟨#[32, 115, 114, 99, 32, 97, 108, 116, 32, 119, 105, 100, 116, 104, 32, 104, 101, 105, 103, 104, 116, 32]⟩) [105, 109, 103] rfl rfl (by kernel_rfl) ?_); intro w2 ho hg2; have ho2 : ownsL Tryz.prog 9 w2 w.heap.size [([97], .string ⟨#[32, 104, 114, 101, 102, 32]⟩), ([105, 109, 103], .string ⟨#[32, 115, 114, 99, 32, 97, 108, 116, 32, 119, 105, 100, 116, 104, 32, 104, 101, 105, 103, 104, 116, 32]⟩)] := ho; clear ho ho1)
    | ((with_reducible refine wpList_insert_L rfl _ _ _ 41 rfl 9 9 law9 Tryz.underlying41 w.heap.size [([97], .string ⟨#[32, 104, 114, 101, 102, 32]⟩), ([105, 109, 103], .string ⟨#[32, 115, 114, 99, 32, 97, 108, 116, 32, 119, 105, 100, 116, 104, 32, 104, 101, 105, 103, 104, 116, 32]⟩)] rfl ho2 (by decide) (.string ⟨#[111, 108]⟩) (.string ⟨#[32, 115, 116, 97, 114, 116, 32]⟩) [111, 108] rfl rfl (by kernel_rfl) ?_); intro w3 ho hg3; have ho3 : ownsL Tryz.prog 9 w3 w.heap.size [([97], .string ⟨#[32, 104, 114, 101, 102, 32]⟩), ([105, 109, 103], .string ⟨#[32, 115, 114, 99, 32, 97, 108, 116, 32, 119, 105, 100, 116, 104, 32, 104, 101, 105, 103, 104, 116, 32]⟩), ([111, 108], .string ⟨#[32, 115, 116, 97, 114, 116, 32]⟩)] := ho; clear ho ho2)
    | ((with_reducible refine wpList_insert_L rfl _ _ _ 41 rfl 9 9 law9 Tryz.underlying41 w.heap.size [([97], .string ⟨#[32, 104, 114, 101, 102, 32]⟩), ([105, 109, 103], .string ⟨#[32, 115, 114, 99, 32, 97, 108, 116, 32, 119, 105, 100, 116, 104, 32, 104, 101, 105, 103, 104, 116, 32]⟩), ([111, 108], .string ⟨#[32, 115, 116, 97, 114, 116, 32]⟩)] rfl ho3 (by decide) (.string ⟨#[108, 105]⟩) (.string ⟨#[32, 118, 97, 108, 117, 101, 32]⟩) [108, 105] rfl rfl (by kernel_rfl) ?_); intro w4 ho hg4; have ho4 : ownsL Tryz.prog 9 w4 w.heap.size ownL := ho; clear ho ho3; have hlook := ownsL_look ho4 law9 Tryz.underlying41 (zero9 w4) HK.out))
  rw [look_own]
  have hb : Below w.heap.size w w4 := ((((((Below.refl _ w).alloc (Nat.le_refl _) _).grown hg1 (by simp) (by simp)).grown hg2 (by have := hg1.size; simp at this; omega) (by simp)).grown hg3 (by have := hg1.size; have := hg2.size; simp at *; omega) (by simp)).grown hg4 (by have := hg1.size; have := hg2.size; have := hg3.size; simp at *; omega) (by simp))
  refine (is_any _ n w4 (HG.out.below hb) (ownText_size _) hn).mono ?_
  rintro _ _ ⟨rfl, rfl⟩
  have HB := Lib.hid hb
  clear hb hlook hg1 hg2 hg3 hg4 ho4
  go_wp2_with fail
  go_ret
  exact ⟨by rw [hfin.out]; rfl, HB.out⟩

theorem elemF_cases (l : List UInt8) : elemF l = 2 ∨ elemF l = 0 ∨ elemF l = 1 := by
  unfold elemF
  split
  · exact .inl rfl
  · split
    · exact .inr (.inl rfl)
    · exact .inr (.inr rfl)

set_option maxHeartbeats 400000 in
theorem attr_none (e n : ByteArray) (w : World) (hG : Good w) (he : e.size < 4294967281) (h1 : ¬ elemF e.data.toList = 2) :
    Calls Tryz.prog 10 #[.string e, .string n] w fun ee w' => ee = .returned (.bool (attrF e.data.toList n.data.toList)) ∧ w = w' := by
  have HE := Lib.hid (element_any e w hG he)
  have hfin := Lib.hid (show attrF e.data.toList n.data.toList = false by simp [attrF, h1])
  rcases elemF_cases e.data.toList with h | h | h
  · exact absurd h h1
  all_goals
    rw [h] at HE
    clear hG h1 h
    go_enter Tryz.func10, Tryz.ntmps10
    go_wp2_with fail
    refine HE.out.mono ?_
    rintro _ _ ⟨rfl, rfl⟩
    go_wp2_with fail
    go_ret
    exact ⟨by rw [hfin.out]; rfl, rfl⟩

set_option maxRecDepth 100000 in
set_option maxHeartbeats 400000 in
theorem attr_all (e n : ByteArray) (w : World) (hG : Good w) (he : e.size < 4294967281) (h1 : elemF e.data.toList = 2) (h2 : n.data.toList ∈ allWords) :
    Calls Tryz.prog 10 #[.string e, .string n] w fun ee w' => ee = .returned (.bool (attrF e.data.toList n.data.toList)) ∧ w = w' := by
  have HE := Lib.hid (element_any e w hG he)
  have hfin := Lib.hid (show attrF e.data.toList n.data.toList = true by simp [attrF, h1, h2])
  rw [h1] at HE
  clear hG h1
  simp only [allWords, List.mem_cons, List.not_mem_nil, or_false] at h2
  by_cases n1 : n.data.toList = [116, 105, 116, 108, 101]
  · replace n1 := beq_yes n1
    clear h2
    go_enter Tryz.func10, Tryz.ntmps10
    go_wp2_with fail
    refine HE.out.mono ?_
    rintro _ _ ⟨rfl, rfl⟩
    go_wp2_with fail
    go_ret
    exact ⟨by rw [hfin.out]; rfl, rfl⟩
  · by_cases n2 : n.data.toList = [100, 105, 114]
    · replace n1 := beq_no n1
      replace n2 := beq_yes n2
      clear h2
      go_enter Tryz.func10, Tryz.ntmps10
      go_wp2_with fail
      refine HE.out.mono ?_
      rintro _ _ ⟨rfl, rfl⟩
      go_wp2_with fail
      go_ret
      exact ⟨by rw [hfin.out]; rfl, rfl⟩
    · by_cases n3 : n.data.toList = [108, 97, 110, 103]
      · replace n1 := beq_no n1
        replace n2 := beq_no n2
        replace n3 := beq_yes n3
        clear h2
        go_enter Tryz.func10, Tryz.ntmps10
        go_wp2_with fail
        refine HE.out.mono ?_
        rintro _ _ ⟨rfl, rfl⟩
        go_wp2_with fail
        go_ret
        exact ⟨by rw [hfin.out]; rfl, rfl⟩
      · have n4 : n.data.toList = [115, 116, 121, 108, 101] := by simpa [n1, n2, n3] using h2
        replace n1 := beq_no n1
        replace n2 := beq_no n2
        replace n3 := beq_no n3
        replace n4 := beq_yes n4
        clear h2
        go_enter Tryz.func10, Tryz.ntmps10
        go_wp2_with fail
        refine HE.out.mono ?_
        rintro _ _ ⟨rfl, rfl⟩
        go_wp2_with fail
        go_ret
        exact ⟨by rw [hfin.out]; rfl, rfl⟩

/-- rules.Attr. -/
theorem attr_any (e n : ByteArray) (w : World) (hG : Good w) (he : e.size < 4294967281) (hn : n.size < 4294967281) :
    Calls Tryz.prog 10 #[.string e, .string n] w fun ee w' => ee = .returned (.bool (attrF e.data.toList n.data.toList)) ∧ Below w.heap.size w w' := by
  by_cases h1 : elemF e.data.toList = 2
  · by_cases h2 : n.data.toList ∈ allWords
    · exact (attr_all e n w hG he h1 h2).mono fun _ _ h => ⟨h.1, h.2 ▸ Below.refl _ _⟩
    · exact attr_own e n w hG he hn h1 h2
  · exact (attr_none e n w hG he h1).mono fun _ _ h => ⟨h.1, h.2 ▸ Below.refl _ _⟩
end Go.Proofs.YtchooidhieaphaaGreatDoor
