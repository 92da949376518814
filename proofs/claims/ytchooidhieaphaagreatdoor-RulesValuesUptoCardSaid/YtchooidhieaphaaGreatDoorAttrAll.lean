/- rules.Element, rules.Attr and htok.Raw return what elemF and attrF say; a map literal holds what was put into it. Condition: texts below 2^32 - 96 bytes. -/
import Derived.Lib.IndexMore
import Derived.Test.YtchooidhieaphaaGreatDoorBase
import Derived.Test.YtchooidhieaphaaGreatDoorShelf
import Derived.Test.YtchooidhieaphaaGreatDoorMaps
namespace Go.Proofs.YtchooidhieaphaaGreatDoor
open Go
/-- Does sub lie somewhere in the text? -/
def has : List UInt8 → List UInt8 → Bool
  | [], sub => sub.isEmpty
  | b :: l, sub => sub.isPrefixOf (b :: l) || has l sub
theorem index_has : ∀ (l sub : List UInt8), (0 ≤ Lib.index l sub ↔ has l sub = true) ∧ -1 ≤ Lib.index l sub
  | [], sub => by
    unfold Lib.index has
    cases sub.isEmpty <;> simp
  | b :: l, sub => by
    have ih := index_has l sub
    unfold Lib.index has
    by_cases h : sub.isPrefixOf (b :: l) = true
    · simp [h]
    · rw [if_neg h]
      replace h : sub.isPrefixOf (b :: l) = false := Bool.eq_false_iff.2 h
      rw [h, Bool.false_or]
      by_cases h1 : Lib.index l sub = -1
      · simp only [h1, beq_self_eq_true, if_true]
        have : ¬ has l sub = true := fun e => by have := ih.1.2 e; omega
        simp [this]
      · have h2 : (Lib.index l sub == -1) = false := by simpa using h1
        rw [h2]
        simp only [Bool.false_eq_true, if_false]
        have h3 : 0 ≤ Lib.index l sub := by omega
        exact ⟨⟨fun _ => ih.1.1 h3, fun _ => by omega⟩, by omega⟩
theorem contains_has (l sub : List UInt8) : Lib.contains l sub = has l sub := by
  unfold Lib.contains
  rw [Bool.eq_iff_iff, decide_eq_true_eq]
  exact (index_has l sub).1
theorem has_one (l : List UInt8) (c : UInt8) : has l [c] = l.contains c := by
  induction l with
  | nil => rfl
  | cons b l ih =>
    unfold has
    rw [ih, List.contains_cons]
    simp [List.isPrefixOf]
/-- Words, each with a blank behind it. -/
def spread : List (List UInt8) → List UInt8
  | [] => []
  | w :: ws => w ++ 32 :: spread ws
/-- A blank ahead of what stands behind a word without blanks. -/
theorem has_skip (w l n : List UInt8) (hw : (32 : UInt8) ∉ w) : has (w ++ 32 :: l) (32 :: n) = has (32 :: l) (32 :: n) := by
  induction w with
  | nil => rfl
  | cons b w ih =>
    simp only [List.mem_cons, not_or] at hw
    have hb : ((32 : UInt8) == b) = false := by simpa using hw.1
    show ((32 :: n).isPrefixOf (b :: (w ++ 32 :: l)) || has (w ++ 32 :: l) (32 :: n)) = _
    rw [ih hw.2]
    simp [List.isPrefixOf, hb]
theorem prefix_word : ∀ (n w l : List UInt8), (32 : UInt8) ∉ n → (32 : UInt8) ∉ w → ((n ++ [32]).isPrefixOf (w ++ 32 :: l) = decide (n = w))
  | [], [], l, _, _ => by simp [List.isPrefixOf]
  | [], b :: w, l, _, hw => by
    simp only [List.mem_cons, not_or] at hw
    have hb : ((32 : UInt8) == b) = false := by simpa using hw.1
    simp [List.isPrefixOf, hb]
  | a :: n, [], l, hn, _ => by
    simp only [List.mem_cons, not_or] at hn
    have ha : (a == (32 : UInt8)) = false := by simpa using fun e => hn.1 e.symm
    simp [List.isPrefixOf, ha]
  | a :: n, b :: w, l, hn, hw => by
    simp only [List.mem_cons, not_or] at hn hw
    have ih := prefix_word n w l hn.2 hw.2
    simp only [List.cons_append, List.isPrefixOf, ih]
    by_cases e : a = b
    · subst e; simp
    · simp [e]
theorem has_words (n : List UInt8) (hn : (32 : UInt8) ∉ n) (hne : n ≠ []) : ∀ ws : List (List UInt8), (∀ w ∈ ws, (32 : UInt8) ∉ w) → has (32 :: spread ws) (32 :: (n ++ [32])) = decide (n ∈ ws)
  | [], _ => by
    cases n with
    | nil => exact absurd rfl hne
    | cons a n =>
      simp [spread, has, List.isPrefixOf]
  | w :: ws, h => by
    have ih := has_words n hn hne ws (fun x hx => h x (List.mem_cons_of_mem _ hx))
    have hw := h w (List.mem_cons_self ..)
    show ((32 :: (n ++ [32])).isPrefixOf (32 :: (w ++ 32 :: spread ws)) || has (w ++ 32 :: spread ws) (32 :: (n ++ [32]))) = _
    rw [has_skip w _ _ hw, ih]
    simp only [List.isPrefixOf, beq_self_eq_true, Bool.true_and]
    rw [prefix_word n w _ hn hw]
    by_cases e : n = w <;> simp [e]
/-- What rules.is tells: a name that is one of some. -/
def isF (all name : List UInt8) : Bool := !name.isEmpty && (!(has name [32]) && has all (32 :: (name ++ [32])))
theorem isF_words (ws : List (List UInt8)) (hws : ∀ w ∈ ws, (32 : UInt8) ∉ w ∧ w ≠ []) (name : List UInt8) : isF (32 :: spread ws) name = decide (name ∈ ws) := by
  unfold isF
  rw [has_one]
  by_cases h0 : name = []
  · subst h0
    have : ([] : List UInt8) ∉ ws := fun h => (hws _ h).2 rfl
    simp [this]
  · by_cases h1 : (32 : UInt8) ∈ name
    · have : name ∉ ws := fun h => (hws _ h).1 h1
      simp [h1, this]
    · rw [has_words name h1 h0 ws (fun w hw => (hws w hw).1)]
      simp [h0, h1]
end Go.Proofs.YtchooidhieaphaaGreatDoor
namespace Go.Proofs.YtchooidhieaphaaGreatDoor
open Go.RowKit
theorem contains_any (a b : ByteArray) (w : World) (hG : Good w) (ha : a.size < 4294967281) :
    Calls Tryz.prog 40 #[.string a, .string b] w fun e w' => e = .returned (.bool (has a.data.toList b.data.toList)) ∧ w = w' := by
  obtain ⟨m, hm⟩ := hG.maxlen
  exact (Tryz.strings_Contains a b m w ha hm).mono fun _ _ h => ⟨by rw [h.1, contains_has], h.2.symm⟩
set_option maxHeartbeats 400000 in
theorem is_any (all name : ByteArray) (w : World) (hG : Good w) (h1 : all.size < 4294967281) (h2 : name.size < 4294967281) :
    Calls Tryz.prog 20 #[.string all, .string name] w fun e w' => e = .returned (.bool (isF all.data.toList name.data.toList)) ∧ w = w' := by
  have HC := Lib.hid (fun (a b : ByteArray) (ha : a.size < 4294967281) => contains_any a b w hG ha)
  clear hG
  go_enter Tryz.func20, Tryz.ntmps20
  go_wp2_with (go_at_call 40; refine (HC.out _ _ ?_).mono ?_; · omega
               rintro e w' ⟨rfl, rfl⟩)
  all_goals
    go_ret
    refine ⟨ret_bool ?_, rfl⟩
    simp_all [isF, ByteArray.toList_eq]
/-- The words of rules.stays, rules.drops, htok.Raw. -/
def stayWords : List (List UInt8) := [[97], [98], [98, 108, 111, 99, 107, 113, 117, 111, 116, 101], [98, 114], [99, 111, 100, 101], [100, 100], [100, 105, 118], [100, 108], [100, 116], [101, 109], [104, 49], [104, 50], [104, 51], [104, 52], [104, 53], [104, 54], [104, 114], [105], [105, 109, 103], [108, 105], [111, 108], [112], [112, 114, 101], [115], [115, 109, 97, 108, 108], [115, 112, 97, 110], [115, 116, 114, 111, 110, 103], [115, 117, 98], [115, 117, 112], [117], [117, 108]]
def dropWords : List (List UInt8) := [[97, 112, 112, 108, 101, 116], [97, 117, 100, 105, 111], [98, 97, 115, 101], [98, 117, 116, 116, 111, 110], [99, 97, 110, 118, 97, 115], [101, 109, 98, 101, 100], [102, 114, 97, 109, 101], [102, 114, 97, 109, 101, 115, 101, 116], [104, 101, 97, 100], [105, 110, 112, 117, 116], [108, 105, 110, 107], [109, 97, 116, 104], [109, 101, 116, 97], [111, 98, 106, 101, 99, 116], [111, 112, 116, 105, 111, 110], [115, 101, 108, 101, 99, 116], [115, 111, 117, 114, 99, 101], [115, 118, 103], [116, 101, 109, 112, 108, 97, 116, 101], [116, 114, 97, 99, 107], [118, 105, 100, 101, 111]]
def rawWords : List (List UInt8) := [[115, 99, 114, 105, 112, 116], [115, 116, 121, 108, 101], [116, 105, 116, 108, 101], [116, 101, 120, 116, 97, 114, 101, 97], [120, 109, 112], [105, 102, 114, 97, 109, 101], [110, 111, 101, 109, 98, 101, 100], [110, 111, 102, 114, 97, 109, 101, 115], [112, 108, 97, 105, 110, 116, 101, 120, 116], [110, 111, 115, 99, 114, 105, 112, 116]]
def stayText : List UInt8 := [32, 97, 32, 98, 32, 98, 108, 111, 99, 107, 113, 117, 111, 116, 101, 32, 98, 114, 32, 99, 111, 100, 101, 32, 100, 100, 32, 100, 105, 118, 32, 100, 108, 32, 100, 116, 32, 101, 109, 32, 104, 49, 32, 104, 50, 32, 104, 51, 32, 104, 52, 32, 104, 53, 32, 104, 54, 32, 104, 114, 32, 105, 32, 105, 109, 103, 32, 108, 105, 32, 111, 108, 32, 112, 32, 112, 114, 101, 32, 115, 32, 115, 109, 97, 108, 108, 32, 115, 112, 97, 110, 32, 115, 116, 114, 111, 110, 103, 32, 115, 117, 98, 32, 115, 117, 112, 32, 117, 32, 117, 108, 32]
def dropText : List UInt8 := [32, 97, 112, 112, 108, 101, 116, 32, 97, 117, 100, 105, 111, 32, 98, 97, 115, 101, 32, 98, 117, 116, 116, 111, 110, 32, 99, 97, 110, 118, 97, 115, 32, 101, 109, 98, 101, 100, 32, 102, 114, 97, 109, 101, 32, 102, 114, 97, 109, 101, 115, 101, 116, 32, 104, 101, 97, 100, 32, 105, 110, 112, 117, 116, 32, 108, 105, 110, 107, 32, 109, 97, 116, 104, 32, 109, 101, 116, 97, 32, 111, 98, 106, 101, 99, 116, 32, 111, 112, 116, 105, 111, 110, 32, 115, 101, 108, 101, 99, 116, 32, 115, 111, 117, 114, 99, 101, 32, 115, 118, 103, 32, 116, 101, 109, 112, 108, 97, 116, 101, 32, 116, 114, 97, 99, 107, 32, 118, 105, 100, 101, 111, 32]
def rawText : List UInt8 := [32, 115, 99, 114, 105, 112, 116, 32, 115, 116, 121, 108, 101, 32, 116, 105, 116, 108, 101, 32, 116, 101, 120, 116, 97, 114, 101, 97, 32, 120, 109, 112, 32, 105, 102, 114, 97, 109, 101, 32, 110, 111, 101, 109, 98, 101, 100, 32, 110, 111, 102, 114, 97, 109, 101, 115, 32, 112, 108, 97, 105, 110, 116, 101, 120, 116, 32, 110, 111, 115, 99, 114, 105, 112, 116, 32]
theorem stay_spread : stayText = 32 :: spread stayWords := by decide +kernel
theorem drop_spread : dropText = 32 :: spread dropWords := by decide +kernel
theorem raw_spread : rawText = 32 :: spread rawWords := by decide +kernel
theorem noblank_of {ws : List (List UInt8)} (h : ws.all (fun w => !(w.contains 32) && !w.isEmpty) = true) : ∀ w ∈ ws, (32 : UInt8) ∉ w ∧ w ≠ [] := by
  intro w hw
  have := List.all_eq_true.1 h w hw
  simpa using this
theorem isF_stay (name : List UInt8) : isF stayText name = decide (name ∈ stayWords) := by rw [stay_spread]; exact isF_words _ (noblank_of (by decide +kernel)) name
theorem isF_drop (name : List UInt8) : isF dropText name = decide (name ∈ dropWords) := by rw [drop_spread]; exact isF_words _ (noblank_of (by decide +kernel)) name
theorem isF_raw (name : List UInt8) : isF rawText name = decide (name ∈ rawWords) := by rw [raw_spread]; exact isF_words _ (noblank_of (by decide +kernel)) name
set_option maxHeartbeats 400000 in
theorem raw_walk (name : ByteArray) (w : World) (hG : Good w) (h2 : name.size < 4294967281) :
    Calls Tryz.prog 21 #[.string name] w fun e w' => e = .returned (.bool (isF rawText name.data.toList)) ∧ w = w' := by
  have HC := Lib.hid (fun (a b : ByteArray) (ha : a.size < 4294967281) => contains_any a b w hG ha)
  clear hG
  go_enter Tryz.func21, Tryz.ntmps21
  go_wp2_with (go_at_call 40; refine (HC.out _ _ ?_).mono ?_; · first | omega | decide
               rintro e w' ⟨rfl, rfl⟩)
  all_goals
    go_ret
    refine ⟨ret_bool ?_, rfl⟩
    simp_all [isF, rawText, ByteArray.toList_eq]
theorem raw_any (name : ByteArray) (w : World) (hG : Good w) (h2 : name.size < 4294967281) :
    Calls Tryz.prog 21 #[.string name] w fun e w' => e = .returned (.bool (decide (name.data.toList ∈ rawWords))) ∧ w = w' := by
  rw [← isF_raw]; exact raw_walk name w hG h2
theorem stays_any (name : ByteArray) (w : World) (hG : Good w) (h2 : name.size < 4294967281) :
    Calls Tryz.prog 20 #[.string ⟨stayText.toArray⟩, .string name] w fun e w' => e = .returned (.bool (decide (name.data.toList ∈ stayWords))) ∧ w = w' := by
  rw [← isF_stay]; exact is_any ⟨stayText.toArray⟩ name w hG (by decide +kernel) h2
theorem drops_any (name : ByteArray) (w : World) (hG : Good w) (h2 : name.size < 4294967281) :
    Calls Tryz.prog 20 #[.string ⟨dropText.toArray⟩, .string name] w fun e w' => e = .returned (.bool (decide (name.data.toList ∈ dropWords))) ∧ w = w' := by
  rw [← isF_drop]; exact is_any ⟨dropText.toArray⟩ name w hG (by decide +kernel) h2
/-- What becomes of an element: 2 it stays, 0 it is dropped, 1 it is opened. -/
def elemF (name : List UInt8) : Int := if name ∈ stayWords then 2 else if name ∈ dropWords ∨ name ∈ rawWords then 0 else 1
set_option maxHeartbeats 400000 in
theorem element_any (name : ByteArray) (w : World) (hG : Good w) (h2 : name.size < 4294967281) :
    Calls Tryz.prog 8 #[.string name] w fun e w' => e = .returned (.int .i64 (elemF name.data.toList)) ∧ w = w' := by
  have HS := Lib.hid (stays_any name w hG h2)
  have HD := Lib.hid (drops_any name w hG h2)
  have HR := Lib.hid (raw_any name w hG h2)
  clear hG
  by_cases g1 : name.data.toList ∈ stayWords
  · have hfin := Lib.hid (show elemF name.data.toList = 2 by simp [elemF, g1])
    go_enter Tryz.func8, Tryz.ntmps8
    go_wp2_with fail
    refine HS.out.mono ?_
    rintro e w' ⟨rfl, rfl⟩
    go_wp2_with fail
    go_ret
    exact ⟨by rw [hfin.out]; rfl, rfl⟩
  · by_cases g2 : name.data.toList ∈ dropWords
    · have hfin := Lib.hid (show elemF name.data.toList = 0 by simp [elemF, g1, g2])
      go_enter Tryz.func8, Tryz.ntmps8
      go_wp2_with fail
      refine HS.out.mono ?_
      rintro e w' ⟨rfl, rfl⟩
      go_wp2_with fail
      refine HD.out.mono ?_
      rintro e w' ⟨rfl, rfl⟩
      go_wp2_with fail
      go_ret
      exact ⟨by rw [hfin.out]; rfl, rfl⟩
    · have hfin := Lib.hid (show elemF name.data.toList = if name.data.toList ∈ rawWords then 0 else 1 by simp [elemF, g1, g2])
      go_enter Tryz.func8, Tryz.ntmps8
      go_wp2_with fail
      refine HS.out.mono ?_
      rintro e w' ⟨rfl, rfl⟩
      go_wp2_with fail
      refine HD.out.mono ?_
      rintro e w' ⟨rfl, rfl⟩
      go_wp2_with fail
      refine HR.out.mono ?_
      rintro e w' ⟨rfl, rfl⟩
      go_wp2_with fail
      all_goals
        go_ret
        exact ⟨by rw [hfin.out]; simp_all, rfl⟩
/-- Which attributes an element has of its own. -/
def ownWords (e : List UInt8) : List (List UInt8) :=
  if e = [97] then [[104, 114, 101, 102]] else if e = [105, 109, 103] then [[115, 114, 99], [97, 108, 116], [119, 105, 100, 116, 104], [104, 101, 105, 103, 104, 116]]
  else if e = [111, 108] then [[115, 116, 97, 114, 116]] else if e = [108, 105] then [[118, 97, 108, 117, 101]] else []
def allWords : List (List UInt8) := [[116, 105, 116, 108, 101], [100, 105, 114], [108, 97, 110, 103], [115, 116, 121, 108, 101]]
/-- May an attribute be? -/
def attrF (e n : List UInt8) : Bool := decide (elemF e = 2) && (decide (n ∈ allWords) || decide (n ∈ ownWords e))
def ownText (e : List UInt8) : List UInt8 :=
  if e = [97] then [32, 104, 114, 101, 102, 32] else if e = [105, 109, 103] then [32, 115, 114, 99, 32, 97, 108, 116, 32, 119, 105, 100, 116, 104, 32, 104, 101, 105, 103, 104, 116, 32]
  else if e = [111, 108] then [32, 115, 116, 97, 114, 116, 32] else if e = [108, 105] then [32, 118, 97, 108, 117, 101, 32] else []
theorem ownText_any (e n : List UInt8) : isF (ownText e) n = decide (n ∈ ownWords e) := by
  unfold ownText ownWords
  split
  · exact isF_words [[104, 114, 101, 102]] (noblank_of (by decide)) n
  · split
    · exact isF_words [[115, 114, 99], [97, 108, 116], [119, 105, 100, 116, 104], [104, 101, 105, 103, 104, 116]] (noblank_of (by decide)) n
    · split
      · exact isF_words [[115, 116, 97, 114, 116]] (noblank_of (by decide)) n
      · split
        · exact isF_words [[118, 97, 108, 117, 101]] (noblank_of (by decide)) n
        · simp [isF, has]
end Go.Proofs.YtchooidhieaphaaGreatDoor
set_option linter.unusedVariables false
set_option linter.unusedSimpArgs false
namespace Go.Proofs.YtchooidhieaphaaGreatDoor
open Go.RowKit
theorem law9 : Go.Maps.Keyed Tryz.prog 9 := Go.Maps.string_keyed Tryz.underlying9
theorem zero9 (w : World) : (zeroValue 9).run Tryz.prog w = .ok (.string ⟨#[]⟩) w := by kernel_rfl
theorem key9 {s : ByteArray} (h : s.size < 4294967281) : keyOf Tryz.prog 9 (.string s) = some (.string s.data.toList) := WideMaps.keyOf_string_mk Tryz.underlying9 (by unfold maxLen; omega)
theorem beq_no {s : ByteArray} {l : List UInt8} (h : ¬ s.data.toList = l) : (s.toList == l) = false := by
  rw [ByteArray.toList_eq]; simpa using h
theorem beq_yes {s : ByteArray} {l : List UInt8} (h : s.data.toList = l) : (s.toList == l) = true := by
  rw [ByteArray.toList_eq]; simpa using h
def ownL : List (List UInt8 × Value) := [([97], .string ⟨#[32, 104, 114, 101, 102, 32]⟩), ([105, 109, 103], .string ⟨#[32, 115, 114, 99, 32, 97, 108, 116, 32, 119, 105, 100, 116, 104, 32, 104, 101, 105, 103, 104, 116, 32]⟩), ([111, 108], .string ⟨#[32, 115, 116, 97, 114, 116, 32]⟩), ([108, 105], .string ⟨#[32, 118, 97, 108, 117, 101, 32]⟩)]
theorem look_own (l : List UInt8) : lookL ownL l (.string ⟨#[]⟩) = .string ⟨(ownText l).toArray⟩ := by
  unfold lookL ownL ownText
  simp only [List.foldl_cons, List.foldl_nil]
  by_cases h1 : l = [97]
  · subst h1; rfl
  · by_cases h2 : l = [105, 109, 103]
    · subst h2; rfl
    · by_cases h3 : l = [111, 108]
      · subst h3; rfl
      · by_cases h4 : l = [108, 105]
        · subst h4; rfl
        · simp only [if_neg h1, if_neg h2, if_neg h3, if_neg h4]
theorem ownText_size (l : List UInt8) : (⟨(ownText l).toArray⟩ : ByteArray).size < 4294967281 := by
  unfold ownText
  split
  · decide
  · split
    · decide
    · split
      · decide
      · split <;> decide
set_option maxRecDepth 100000 in
set_option maxHeartbeats 400000 in
theorem attr_own (e n : ByteArray) (w : World) (hG : Good w) (he : e.size < 4294967281) (hn : n.size < 4294967281) (h1 : elemF e.data.toList = 2) (h2 : ¬ n.data.toList ∈ allWords) :
    Calls Tryz.prog 10 #[.string e, .string n] w fun ee w' => ee = .returned (.bool (attrF e.data.toList n.data.toList)) ∧ Below w.heap.size w w' := by
  have HE := Lib.hid (element_any e w hG he)
  rw [h1] at HE
  have hfin := Lib.hid (show attrF e.data.toList n.data.toList = isF (ownText e.data.toList) n.data.toList by rw [ownText_any]; unfold attrF; simp [h1, h2])
  clear h1
  have HG := Lib.hid hG
  clear hG
  have hmm := @run_makeMap Tryz.prog
  simp only [allWords, List.mem_cons, List.not_mem_nil, or_false, not_or] at h2
  obtain ⟨n1, n2, n3, n4⟩ := h2
  replace n1 := beq_no n1
  replace n2 := beq_no n2
  replace n3 := beq_no n3
  replace n4 := beq_no n4
  have HK := Lib.hid (key9 he)
  go_enter Tryz.func10, Tryz.ntmps10
  go_wp2_with fail
  refine HE.out.mono ?_
  rintro _ _ ⟨rfl, rfl⟩
  go_wp2_with (first
    | ((with_reducible refine wpList_insert_L rfl _ _ _ 41 rfl 9 9 law9 Tryz.underlying41 w.heap.size [] rfl (ownsL_made w Tryz.prog 9) (by decide) (.string ⟨#[97]⟩) (.string ⟨#[32, 104, 114, 101, 102, 32]⟩) [97] rfl rfl (by kernel_rfl) ?_); intro w1 ho hg1; have ho1 : ownsL Tryz.prog 9 w1 w.heap.size [([97], .string ⟨#[32, 104, 114, 101, 102, 32]⟩)] := ho; clear ho)
    | ((with_reducible refine wpList_insert_L rfl _ _ _ 41 rfl 9 9 law9 Tryz.underlying41 w.heap.size [([97], .string ⟨#[32, 104, 114, 101, 102, 32]⟩)] rfl ho1 (by decide) (.string ⟨#[105, 109, 103]⟩) (.string ⟨#[32, 115, 114, 99, 32, 97, 108, 116, 32, 119, 105, 100, 116, 104, 32, 104, 101, 105, 103, 104, 116, 32]⟩) [105, 109, 103] rfl rfl (by kernel_rfl) ?_); intro w2 ho hg2; have ho2 : ownsL Tryz.prog 9 w2 w.heap.size [([97], .string ⟨#[32, 104, 114, 101, 102, 32]⟩), ([105, 109, 103], .string ⟨#[32, 115, 114, 99, 32, 97, 108, 116, 32, 119, 105, 100, 116, 104, 32, 104, 101, 105, 103, 104, 116, 32]⟩)] := ho; clear ho ho1)
    | ((with_reducible refine wpList_insert_L rfl _ _ _ 41 rfl 9 9 law9 Tryz.underlying41 w.heap.size [([97], .string ⟨#[32, 104, 114, 101, 102, 32]⟩), ([105, 109, 103], .string ⟨#[32, 115, 114, 99, 32, 97, 108, 116, 32, 119, 105, 100, 116, 104, 32, 104, 101, 105, 103, 104, 116, 32]⟩)] rfl ho2 (by decide) (.string ⟨#[111, 108]⟩) (.string ⟨#[32, 115, 116, 97, 114, 116, 32]⟩) [111, 108] rfl rfl (by kernel_rfl) ?_); intro w3 ho hg3; have ho3 : ownsL Tryz.prog 9 w3 w.heap.size [([97], .string ⟨#[32, 104, 114, 101, 102, 32]⟩), ([105, 109, 103], .string ⟨#[32, 115, 114, 99, 32, 97, 108, 116, 32, 119, 105, 100, 116, 104, 32, 104, 101, 105, 103, 104, 116, 32]⟩), ([111, 108], .string ⟨#[32, 115, 116, 97, 114, 116, 32]⟩)] := ho; clear ho ho2)
    | ((with_reducible refine wpList_insert_L rfl _ _ _ 41 rfl 9 9 law9 Tryz.underlying41 w.heap.size [([97], .string ⟨#[32, 104, 114, 101, 102, 32]⟩), ([105, 109, 103], .string ⟨#[32, 115, 114, 99, 32, 97, 108, 116, 32, 119, 105, 100, 116, 104, 32, 104, 101, 105, 103, 104, 116, 32]⟩), ([111, 108], .string ⟨#[32, 115, 116, 97, 114, 116, 32]⟩)] rfl ho3 (by decide) (.string ⟨#[108, 105]⟩) (.string ⟨#[32, 118, 97, 108, 117, 101, 32]⟩) [108, 105] rfl rfl (by kernel_rfl) ?_); intro w4 ho hg4; have ho4 : ownsL Tryz.prog 9 w4 w.heap.size ownL := ho; clear ho ho3; have hlook := ownsL_look ho4 law9 Tryz.underlying41 (zero9 w4) HK.out))
  rw [look_own]
  have hb : Below w.heap.size w w4 := ((((((Below.refl _ w).alloc (Nat.le_refl _) _).grown hg1 (by simp) (by simp)).grown hg2 (by have := hg1.size; simp at this; omega) (by simp)).grown hg3 (by have := hg1.size; have := hg2.size; simp at *; omega) (by simp)).grown hg4 (by have := hg1.size; have := hg2.size; have := hg3.size; simp at *; omega) (by simp))
  refine (is_any _ n w4 (HG.out.below hb) (ownText_size _) hn).mono ?_
  rintro _ _ ⟨rfl, rfl⟩
  have HB := Lib.hid hb
  clear hb hlook hg1 hg2 hg3 hg4 ho4
  go_wp2_with fail
  go_ret
  exact ⟨by rw [hfin.out]; rfl, HB.out⟩
theorem elemF_cases (l : List UInt8) : elemF l = 2 ∨ elemF l = 0 ∨ elemF l = 1 := by
  unfold elemF
  split
  · exact .inl rfl
  · split
    · exact .inr (.inl rfl)
    · exact .inr (.inr rfl)
set_option maxHeartbeats 400000 in
theorem attr_none (e n : ByteArray) (w : World) (hG : Good w) (he : e.size < 4294967281) (h1 : ¬ elemF e.data.toList = 2) :
    Calls Tryz.prog 10 #[.string e, .string n] w fun ee w' => ee = .returned (.bool (attrF e.data.toList n.data.toList)) ∧ w = w' := by
  have HE := Lib.hid (element_any e w hG he)
  have hfin := Lib.hid (show attrF e.data.toList n.data.toList = false by simp [attrF, h1])
  rcases elemF_cases e.data.toList with h | h | h
  · exact absurd h h1
  all_goals
    rw [h] at HE
    clear hG h1 h
    go_enter Tryz.func10, Tryz.ntmps10
    go_wp2_with fail
    refine HE.out.mono ?_
    rintro _ _ ⟨rfl, rfl⟩
    go_wp2_with fail
    go_ret
    exact ⟨by rw [hfin.out]; rfl, rfl⟩
set_option maxRecDepth 100000 in
set_option maxHeartbeats 400000 in
theorem attr_all (e n : ByteArray) (w : World) (hG : Good w) (he : e.size < 4294967281) (h1 : elemF e.data.toList = 2) (h2 : n.data.toList ∈ allWords) :
    Calls Tryz.prog 10 #[.string e, .string n] w fun ee w' => ee = .returned (.bool (attrF e.data.toList n.data.toList)) ∧ w = w' := by
  have HE := Lib.hid (element_any e w hG he)
  have hfin := Lib.hid (show attrF e.data.toList n.data.toList = true by simp [attrF, h1, h2])
  rw [h1] at HE
  clear hG h1
  simp only [allWords, List.mem_cons, List.not_mem_nil, or_false] at h2
  by_cases n1 : n.data.toList = [116, 105, 116, 108, 101]
  · replace n1 := beq_yes n1
    clear h2
    go_enter Tryz.func10, Tryz.ntmps10
    go_wp2_with fail
    refine HE.out.mono ?_
    rintro _ _ ⟨rfl, rfl⟩
    go_wp2_with fail
    go_ret
    exact ⟨by rw [hfin.out]; rfl, rfl⟩
  · by_cases n2 : n.data.toList = [100, 105, 114]
    · replace n1 := beq_no n1
      replace n2 := beq_yes n2
      clear h2
      go_enter Tryz.func10, Tryz.ntmps10
      go_wp2_with fail
      refine HE.out.mono ?_
      rintro _ _ ⟨rfl, rfl⟩
      go_wp2_with fail
      go_ret
      exact ⟨by rw [hfin.out]; rfl, rfl⟩
    · by_cases n3 : n.data.toList = [108, 97, 110, 103]
      · replace n1 := beq_no n1
        replace n2 := beq_no n2
        replace n3 := beq_yes n3
        clear h2
        go_enter Tryz.func10, Tryz.ntmps10
        go_wp2_with fail
        refine HE.out.mono ?_
        rintro _ _ ⟨rfl, rfl⟩
        go_wp2_with fail
        go_ret
        exact ⟨by rw [hfin.out]; rfl, rfl⟩
      · have n4 : n.data.toList = [115, 116, 121, 108, 101] := by simpa [n1, n2, n3] using h2
        replace n1 := beq_no n1
        replace n2 := beq_no n2
        replace n3 := beq_no n3
        replace n4 := beq_yes n4
        clear h2
        go_enter Tryz.func10, Tryz.ntmps10
        go_wp2_with fail
        refine HE.out.mono ?_
        rintro _ _ ⟨rfl, rfl⟩
        go_wp2_with fail
        go_ret
        exact ⟨by rw [hfin.out]; rfl, rfl⟩
/-- rules.Attr. -/
theorem attr_any (e n : ByteArray) (w : World) (hG : Good w) (he : e.size < 4294967281) (hn : n.size < 4294967281) :
    Calls Tryz.prog 10 #[.string e, .string n] w fun ee w' => ee = .returned (.bool (attrF e.data.toList n.data.toList)) ∧ Below w.heap.size w w' := by
  by_cases h1 : elemF e.data.toList = 2
  · by_cases h2 : n.data.toList ∈ allWords
    · exact (attr_all e n w hG he h1 h2).mono fun _ _ h => ⟨h.1, h.2 ▸ Below.refl _ _⟩
    · exact attr_own e n w hG he hn h1 h2
  · exact (attr_none e n w hG he h1).mono fun _ _ h => ⟨h.1, h.2 ▸ Below.refl _ _⟩
end Go.Proofs.YtchooidhieaphaaGreatDoor
