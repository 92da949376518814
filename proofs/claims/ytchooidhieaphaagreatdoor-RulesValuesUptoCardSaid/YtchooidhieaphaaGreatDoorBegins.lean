/- muslinlaw18.few answers; muslinref18.Number is strconv.Itoa at natural numbers; muslinlaw18.begins returns what beginsF says. Condition: texts below 2^32 bytes. -/
import Derived.Test.YtchooidhieaphaaGreatDoorCleanAll
import Derived.Test.YtchooidhieaphaaGreatDoorR3
import Derived.Test.YtchooidhieaphaaGreatDoorR6
import Derived.Test.YtchooidhieaphaaGreatDoorProg
import Derived.Below
import Derived.Deep.Draws
import Derived.Deep.AppendLies
import Derived.Maps.AppendAt
import Derived.OwnWalk
import Derived.Laws.BytesArg
import Derived.Laws.MakeOwn
import Derived.Laws.OwnMore
import Derived.Deep.OwnRows
import Derived.Tactics
import Derived.Lib.ConvBytes
import Derived.Laws.Slices
import Derived.WalkKit
import Derived.KernelRfl
import Derived.RowKit3
import Derived.Deep.LoopGhost
import Derived.Deep.QuietTactic
import Derived.BigQuiet
import Derived.WideLaws
import Derived.Deep.DeepCutAuto
import Derived.Deep.CutBlock
import Derived.Deep.RegionHeld3
import Derived.Laws.Rows
import Derived.Lib.AppendStr
import Derived.ArgAppend
import Derived.Laws.IdiomCopy
import Derived.OrdersHeld
import Derived.Laws.BitsLemmas
import Derived.RowKit
import Derived.Test.YtchooidhieaphaaGreatDoorWords
import Derived.Lib.ItoaLen
set_option linter.unusedVariables false
set_option linter.unusedSimpArgs false
namespace Go.Proofs.YtchooidhieaphaaGreatDoor
open Go.RowKit Go.Proofs.YtchooidhieaphaaGreatDoorW.PrintWords PRulesValues
theorem few_l0 (l : List S39) (hl : l.length < 4294967296) : ∀ (n i k : Nat), l.length - i = n → n + 1 ≤ k → ∃ r, muslinlaw18_few.l0 k l (i : Int) = some r := by
  intro n
  induction n with
  | zero =>
    intro i k hn hk
    obtain ⟨m, rfl⟩ : ∃ m, k = m + 1 := ⟨k - 1, by omega⟩
    exact ⟨true, by simp only [muslinlaw18_few.l0]; rw [if_neg (by omega)]⟩
  | succ n ih =>
    intro i k hn hk
    obtain ⟨m, rfl⟩ : ∃ m, k = m + 1 := ⟨k - 1, by omega⟩
    obtain ⟨r, hr⟩ := ih (i + 1) m (by omega) (by omega)
    have hw : wrap64 ((i : Int) + 1) = ((i + 1 : Nat) : Int) := by unfold wrap64; omega
    simp only [muslinlaw18_few.l0]
    rw [if_pos (by omega), if_pos (by omega), hw, hr]
    split
    · exact ⟨_, rfl⟩
    · split
      · exact ⟨_, rfl⟩
      · exact ⟨_, rfl⟩
theorem few_j0 (l : List S39) (hl : l.length < 4294967296) (b : Bool) : ∃ r, muslinlaw18_few.j0 (l.length + 2) l b = some r := by
  obtain ⟨r, hr⟩ := few_l0 l hl l.length 0 (l.length + 1) rfl (Nat.le_refl _)
  simp only [muslinlaw18_few.j0]
  split
  · exact ⟨_, rfl⟩
  · exact ⟨r, hr⟩
theorem few_any (A : Option Addr) (c : Nat) (l : List S39) (n v : ByteArray) (w : World) (hC : Kd.C k39 w A l.length l) (hc : l.length ≤ c) (hl : l.length < 4294967296) :
    ∃ r, Calls Tryz.prog 13 #[.slice A l.length c, .agg #[.string n, .string v]] w fun e w' => e = .returned (.bool r) ∧ Below w.heap.size w w' := by
  have : ∃ r, muslinlaw18_few.f (l.length + 2) l n v = some r := by
    unfold muslinlaw18_few.f
    split
    · exact few_j0 l hl _
    · split
      · exact few_j0 l hl _
      · exact few_j0 l hl _
  obtain ⟨r, hr⟩ := this
  exact ⟨r, muslinlaw18_few.calls _ A c l n v r w hC hc hr⟩
theorem number_f : ∀ (i k : Nat), i < 4294967296 → i < k → muslinref18_Number.f k (i : Int) = some ⟨(Lib.decDigits i).toArray⟩ := by
  intro i
  induction i using Nat.strongRecOn with
  | _ i ih =>
  intro k hi hk
  obtain ⟨m, rfl⟩ : ∃ m, k = m + 1 := ⟨k - 1, by omega⟩
  have hd : [(wrap64 (48 + (Int.tmod (i : Int) 10))) % 256] = ([UInt8.ofNat (48 + i % 10)].map fun c => (c.toNat : Int)) := by
    have h1 : Int.tmod (i : Int) 10 = ((i % 10 : Nat) : Int) := by rw [Int.tmod_eq_emod_of_nonneg (by omega)]; omega
    rw [h1]
    have h2 : wrap64 (48 + ((i % 10 : Nat) : Int)) = ((48 + i % 10 : Nat) : Int) := by unfold wrap64; omega
    rw [h2]
    have h3 : (UInt8.ofNat (48 + i % 10)).toNat = 48 + i % 10 := by
      rw [UInt8.toNat_ofNat']
      omega
    simp only [List.map_cons, List.map_nil, h3]
    congr 1
    omega
  have hq : wrap64 (Int.tdiv (i : Int) 10) = ((i / 10 : Nat) : Int) := by
    have h1 : Int.tdiv (i : Int) 10 = ((i / 10 : Nat) : Int) := by rw [Int.tdiv_eq_ediv_of_nonneg (by omega)]; omega
    rw [h1]
    unfold wrap64
    omega
  simp only [muslinref18_Number.f, Option.bind_some]
  rw [hd, strOfNums_bytes, hq]
  by_cases h10 : i < 10
  · rw [if_pos (by omega), Lib.decDigits, dif_pos h10, Nat.mod_eq_of_lt h10]
  · rw [if_neg (by omega), ih (i / 10) (by omega) m (by omega) (by omega)]
    have hlen : (Lib.decDigits (i / 10)).length ≤ 21 := by
      have := Lib.itoa_length_le ((i / 10 : Nat) : Int) (by omega) (by omega)
      unfold Lib.itoa at this
      rwa [if_neg (by omega), Int.toNat_natCast] at this
    rw [Option.bind_some, if_pos (by
      rw [size_mk, size_mk]
      simp only [List.length_cons, List.length_nil]
      omega)]
    rw [Lib.decDigits.eq_1 i, dif_neg h10]
    congr 1
theorem bt_get (s : ByteArray) (i : Nat) (h : i < s.size) : ∃ c : UInt8, s.data.toList[i]? = some c ∧ bt s (i : Int) = (c.toNat : Int) := by
  refine ⟨s[i]'h, Lib.data_getElem? s i h, ?_⟩
  rw [← bt_at s (i : Int) (by simpa using h)]
  simp
end Go.Proofs.YtchooidhieaphaaGreatDoor
