/- rules.is, htok.Raw and rules.Element return what elemF says. Condition: texts below 2^32 - 15 bytes. -/
/-
  The walks of rules.is, htok.Raw, rules.Element, and what they tell.
-/
import Derived.Test.YtchooidhieaphaaGreatDoorBase
import Derived.Test.YtchooidhieaphaaGreatDoorWords
import Derived.Test.YtchooidhieaphaaGreatDoorShelf
namespace Go.Proofs.YtchooidhieaphaaGreatDoor
open Go.RowKit

theorem contains_any (a b : ByteArray) (w : World) (hG : Good w) (ha : a.size < 4294967281) :
    Calls Tryz.prog 40 #[.string a, .string b] w fun e w' => e = .returned (.bool (has a.data.toList b.data.toList)) ∧ w = w' := by
  obtain ⟨m, hm⟩ := hG.maxlen
  exact (Tryz.strings_Contains a b m w ha hm).mono fun _ _ h => ⟨by rw [h.1, contains_has], h.2.symm⟩

set_option maxHeartbeats 400000 in
theorem is_any (all name : ByteArray) (w : World) (hG : Good w) (h1 : all.size < 4294967281) (h2 : name.size < 4294967281) :
    Calls Tryz.prog 20 #[.string all, .string name] w fun e w' => e = .returned (.bool (isF all.data.toList name.data.toList)) ∧ w = w' := by
  have HC := Lib.hid (fun (a b : ByteArray) (ha : a.size < 4294967281) => contains_any a b w hG ha)
  clear hG
  go_enter Tryz.func20, Tryz.ntmps20
  go_wp2_with (go_at_call 40; refine (HC.out _ _ ?_).mono ?_; · omega
               rintro e w' ⟨rfl, rfl⟩)
  all_goals
    go_ret
    refine ⟨ret_bool ?_, rfl⟩
    simp_all [isF, ByteArray.toList_eq]

/-- The words of rules.stays, rules.drops, htok.Raw. -/
def stayWords : List (List UInt8) := [[97], [98], [98, 108, 111, 99, 107, 113, 117, 111, 116, 101], [98, 114], [99, 111, 100, 101], [100, 100], [100, 105, 118], [100, 108], [100, 116], [101, 109], [104, 49], [104, 50], [104, 51], [104, 52], [104, 53], [104, 54], [104, 114], [105], [105, 109, 103], [108, 105], [111, 108], [112], [112, 114, 101], [115], [115, 109, 97, 108, 108], [115, 112, 97, 110], [115, 116, 114, 111, 110, 103], [115, 117, 98], [115, 117, 112], [117], [117, 108]]
def dropWords : List (List UInt8) := [[97, 112, 112, 108, 101, 116], [97, 117, 100, 105, 111], [98, 97, 115, 101], [98, 117, 116, 116, 111, 110], [99, 97, 110, 118, 97, 115], [101, 109, 98, 101, 100], [102, 114, 97, 109, 101], [102, 114, 97, 109, 101, 115, 101, 116], [104, 101, 97, 100], [105, 110, 112, 117, 116], [108, 105, 110, 107], [109, 97, 116, 104], [109, 101, 116, 97], [111, 98, 106, 101, 99, 116], [111, 112, 116, 105, 111, 110], [115, 101, 108, 101, 99, 116], [115, 111, 117, 114, 99, 101], [115, 118, 103], [116, 101, 109, 112, 108, 97, 116, 101], [116, 114, 97, 99, 107], [118, 105, 100, 101, 111]]
def rawWords : List (List UInt8) := [[115, 99, 114, 105, 112, 116], [115, 116, 121, 108, 101], [116, 105, 116, 108, 101], [116, 101, 120, 116, 97, 114, 101, 97], [120, 109, 112], [105, 102, 114, 97, 109, 101], [110, 111, 101, 109, 98, 101, 100], [110, 111, 102, 114, 97, 109, 101, 115], [112, 108, 97, 105, 110, 116, 101, 120, 116], [110, 111, 115, 99, 114, 105, 112, 116]]
def stayText : List UInt8 := [32, 97, 32, 98, 32, 98, 108, 111, 99, 107, 113, 117, 111, 116, 101, 32, 98, 114, 32, 99, 111, 100, 101, 32, 100, 100, 32, 100, 105, 118, 32, 100, 108, 32, 100, 116, 32, 101, 109, 32, 104, 49, 32, 104, 50, 32, 104, 51, 32, 104, 52, 32, 104, 53, 32, 104, 54, 32, 104, 114, 32, 105, 32, 105, 109, 103, 32, 108, 105, 32, 111, 108, 32, 112, 32, 112, 114, 101, 32, 115, 32, 115, 109, 97, 108, 108, 32, 115, 112, 97, 110, 32, 115, 116, 114, 111, 110, 103, 32, 115, 117, 98, 32, 115, 117, 112, 32, 117, 32, 117, 108, 32]
def dropText : List UInt8 := [32, 97, 112, 112, 108, 101, 116, 32, 97, 117, 100, 105, 111, 32, 98, 97, 115, 101, 32, 98, 117, 116, 116, 111, 110, 32, 99, 97, 110, 118, 97, 115, 32, 101, 109, 98, 101, 100, 32, 102, 114, 97, 109, 101, 32, 102, 114, 97, 109, 101, 115, 101, 116, 32, 104, 101, 97, 100, 32, 105, 110, 112, 117, 116, 32, 108, 105, 110, 107, 32, 109, 97, 116, 104, 32, 109, 101, 116, 97, 32, 111, 98, 106, 101, 99, 116, 32, 111, 112, 116, 105, 111, 110, 32, 115, 101, 108, 101, 99, 116, 32, 115, 111, 117, 114, 99, 101, 32, 115, 118, 103, 32, 116, 101, 109, 112, 108, 97, 116, 101, 32, 116, 114, 97, 99, 107, 32, 118, 105, 100, 101, 111, 32]
def rawText : List UInt8 := [32, 115, 99, 114, 105, 112, 116, 32, 115, 116, 121, 108, 101, 32, 116, 105, 116, 108, 101, 32, 116, 101, 120, 116, 97, 114, 101, 97, 32, 120, 109, 112, 32, 105, 102, 114, 97, 109, 101, 32, 110, 111, 101, 109, 98, 101, 100, 32, 110, 111, 102, 114, 97, 109, 101, 115, 32, 112, 108, 97, 105, 110, 116, 101, 120, 116, 32, 110, 111, 115, 99, 114, 105, 112, 116, 32]
theorem stay_spread : stayText = 32 :: spread stayWords := by decide +kernel
theorem drop_spread : dropText = 32 :: spread dropWords := by decide +kernel
theorem raw_spread : rawText = 32 :: spread rawWords := by decide +kernel
theorem noblank_of {ws : List (List UInt8)} (h : ws.all (fun w => !(w.contains 32) && !w.isEmpty) = true) : ∀ w ∈ ws, (32 : UInt8) ∉ w ∧ w ≠ [] := by
  intro w hw
  have := List.all_eq_true.1 h w hw
  simpa using this
theorem isF_stay (name : List UInt8) : isF stayText name = decide (name ∈ stayWords) := by rw [stay_spread]; exact isF_words _ (noblank_of (by decide +kernel)) name
theorem isF_drop (name : List UInt8) : isF dropText name = decide (name ∈ dropWords) := by rw [drop_spread]; exact isF_words _ (noblank_of (by decide +kernel)) name
theorem isF_raw (name : List UInt8) : isF rawText name = decide (name ∈ rawWords) := by rw [raw_spread]; exact isF_words _ (noblank_of (by decide +kernel)) name

set_option maxHeartbeats 400000 in
theorem raw_walk (name : ByteArray) (w : World) (hG : Good w) (h2 : name.size < 4294967281) :
    Calls Tryz.prog 21 #[.string name] w fun e w' => e = .returned (.bool (isF rawText name.data.toList)) ∧ w = w' := by
  have HC := Lib.hid (fun (a b : ByteArray) (ha : a.size < 4294967281) => contains_any a b w hG ha)
  clear hG
  go_enter Tryz.func21, Tryz.ntmps21
  go_wp2_with (go_at_call 40; refine (HC.out _ _ ?_).mono ?_; · first | omega | decide
               rintro e w' ⟨rfl, rfl⟩)
  all_goals
    go_ret
    refine ⟨ret_bool ?_, rfl⟩
    simp_all [isF, rawText, ByteArray.toList_eq]
theorem raw_any (name : ByteArray) (w : World) (hG : Good w) (h2 : name.size < 4294967281) :
    Calls Tryz.prog 21 #[.string name] w fun e w' => e = .returned (.bool (decide (name.data.toList ∈ rawWords))) ∧ w = w' := by
  rw [← isF_raw]; exact raw_walk name w hG h2
theorem stays_any (name : ByteArray) (w : World) (hG : Good w) (h2 : name.size < 4294967281) :
    Calls Tryz.prog 20 #[.string ⟨stayText.toArray⟩, .string name] w fun e w' => e = .returned (.bool (decide (name.data.toList ∈ stayWords))) ∧ w = w' := by
  rw [← isF_stay]; exact is_any ⟨stayText.toArray⟩ name w hG (by decide +kernel) h2
theorem drops_any (name : ByteArray) (w : World) (hG : Good w) (h2 : name.size < 4294967281) :
    Calls Tryz.prog 20 #[.string ⟨dropText.toArray⟩, .string name] w fun e w' => e = .returned (.bool (decide (name.data.toList ∈ dropWords))) ∧ w = w' := by
  rw [← isF_drop]; exact is_any ⟨dropText.toArray⟩ name w hG (by decide +kernel) h2

/-- What becomes of an element: 2 it stays, 0 it is dropped, 1 it is opened. -/
def elemF (name : List UInt8) : Int := if name ∈ stayWords then 2 else if name ∈ dropWords ∨ name ∈ rawWords then 0 else 1

set_option maxHeartbeats 400000 in
theorem element_any (name : ByteArray) (w : World) (hG : Good w) (h2 : name.size < 4294967281) :
    Calls Tryz.prog 8 #[.string name] w fun e w' => e = .returned (.int .i64 (elemF name.data.toList)) ∧ w = w' := by
  have HS := Lib.hid (stays_any name w hG h2)
  have HD := Lib.hid (drops_any name w hG h2)
  have HR := Lib.hid (raw_any name w hG h2)
  clear hG
  by_cases g1 : name.data.toList ∈ stayWords
  · have hfin := Lib.hid (show elemF name.data.toList = 2 by simp [elemF, g1])
    go_enter Tryz.func8, Tryz.ntmps8
    go_wp2_with fail
    refine HS.out.mono ?_
    rintro e w' ⟨rfl, rfl⟩
    go_wp2_with fail
    go_ret
    exact ⟨by rw [hfin.out]; rfl, rfl⟩
  · by_cases g2 : name.data.toList ∈ dropWords
    · have hfin := Lib.hid (show elemF name.data.toList = 0 by simp [elemF, g1, g2])
      go_enter Tryz.func8, Tryz.ntmps8
      go_wp2_with fail
      refine HS.out.mono ?_
      rintro e w' ⟨rfl, rfl⟩
      go_wp2_with fail
      refine HD.out.mono ?_
      rintro e w' ⟨rfl, rfl⟩
      go_wp2_with fail
      go_ret
      exact ⟨by rw [hfin.out]; rfl, rfl⟩
    · have hfin := Lib.hid (show elemF name.data.toList = if name.data.toList ∈ rawWords then 0 else 1 by simp [elemF, g1, g2])
      go_enter Tryz.func8, Tryz.ntmps8
      go_wp2_with fail
      refine HS.out.mono ?_
      rintro e w' ⟨rfl, rfl⟩
      go_wp2_with fail
      refine HD.out.mono ?_
      rintro e w' ⟨rfl, rfl⟩
      go_wp2_with fail
      refine HR.out.mono ?_
      rintro e w' ⟨rfl, rfl⟩
      go_wp2_with fail
      all_goals
        go_ret
        exact ⟨by rw [hfin.out]; simp_all, rfl⟩

/-- Which attributes an element has of its own. -/
def ownWords (e : List UInt8) : List (List UInt8) :=
  if e = [97] then [[104, 114, 101, 102]] else if e = [105, 109, 103] then [[115, 114, 99], [97, 108, 116], [119, 105, 100, 116, 104], [104, 101, 105, 103, 104, 116]]
  else if e = [111, 108] then [[115, 116, 97, 114, 116]] else if e = [108, 105] then [[118, 97, 108, 117, 101]] else []
def allWords : List (List UInt8) := [[116, 105, 116, 108, 101], [100, 105, 114], [108, 97, 110, 103], [115, 116, 121, 108, 101]]
/-- May an attribute be? -/
def attrF (e n : List UInt8) : Bool := decide (elemF e = 2) && (decide (n ∈ allWords) || decide (n ∈ ownWords e))
def ownText (e : List UInt8) : List UInt8 :=
  if e = [97] then [32, 104, 114, 101, 102, 32] else if e = [105, 109, 103] then [32, 115, 114, 99, 32, 97, 108, 116, 32, 119, 105, 100, 116, 104, 32, 104, 101, 105, 103, 104, 116, 32]
  else if e = [111, 108] then [32, 115, 116, 97, 114, 116, 32] else if e = [108, 105] then [32, 118, 97, 108, 117, 101, 32] else []
theorem ownText_any (e n : List UInt8) : isF (ownText e) n = decide (n ∈ ownWords e) := by
  unfold ownText ownWords
  split
  · exact isF_words [[104, 114, 101, 102]] (noblank_of (by decide)) n
  · split
    · exact isF_words [[115, 114, 99], [97, 108, 116], [119, 105, 100, 116, 104], [104, 101, 105, 103, 104, 116]] (noblank_of (by decide)) n
    · split
      · exact isF_words [[115, 116, 97, 114, 116]] (noblank_of (by decide)) n
      · split
        · exact isF_words [[118, 97, 108, 117, 101]] (noblank_of (by decide)) n
        · simp [isF, has]
end Go.Proofs.YtchooidhieaphaaGreatDoor
