/- muslinlaw18.few answers; muslinref18.Number is strconv.Itoa at natural numbers; muslinlaw18.begins returns what beginsF says. Condition: texts below 2^32 bytes. -/
import Derived.Test.YtchooidhieaphaaGreatDoorCleanAll
import Derived.Test.YtchooidhieaphaaGreatDoorPRulesValuesx3
import Derived.Test.YtchooidhieaphaaGreatDoorPRulesValuesx6
import Derived.Test.YtchooidhieaphaaGreatDoorPbeginsx1
import Derived.Lib.ItoaLen
set_option linter.unusedVariables false
set_option linter.unusedSimpArgs false
namespace Go.Proofs.YtchooidhieaphaaGreatDoor
open Go.RowKit Go.Proofs.YtchooidhieaphaaGreatDoorW.PrintWords PRulesValues

theorem few_l0 (l : List S39) (hl : l.length < 4294967296) : ∀ (n i k : Nat), l.length - i = n → n + 1 ≤ k → ∃ r, muslinlaw18_few.l0 k l (i : Int) = some r := by
  intro n
  induction n with
  | zero =>
    intro i k hn hk
    obtain ⟨m, rfl⟩ : ∃ m, k = m + 1 := ⟨k - 1, by omega⟩
    exact ⟨true, by simp only [muslinlaw18_few.l0]; rw [if_neg (by omega)]⟩
  | succ n ih =>
    intro i k hn hk
    obtain ⟨m, rfl⟩ : ∃ m, k = m + 1 := ⟨k - 1, by omega⟩
    obtain ⟨r, hr⟩ := ih (i + 1) m (by omega) (by omega)
    have hw : wrap64 ((i : Int) + 1) = ((i + 1 : Nat) : Int) := by unfold wrap64; omega
    simp only [muslinlaw18_few.l0]
    rw [if_pos (by omega), if_pos (by omega), hw, hr]
    split
    · exact ⟨_, rfl⟩
    · split
      · exact ⟨_, rfl⟩
      · exact ⟨_, rfl⟩
theorem few_j0 (l : List S39) (hl : l.length < 4294967296) (b : Bool) : ∃ r, muslinlaw18_few.j0 (l.length + 2) l b = some r := by
  obtain ⟨r, hr⟩ := few_l0 l hl l.length 0 (l.length + 1) rfl (Nat.le_refl _)
  simp only [muslinlaw18_few.j0]
  split
  · exact ⟨_, rfl⟩
  · exact ⟨r, hr⟩
theorem few_any (A : Option Addr) (c : Nat) (l : List S39) (n v : ByteArray) (w : World) (hC : Kd.C k39 w A l.length l) (hc : l.length ≤ c) (hl : l.length < 4294967296) :
    ∃ r, Calls Tryz.prog 13 #[.slice A l.length c, .agg #[.string n, .string v]] w fun e w' => e = .returned (.bool r) ∧ Below w.heap.size w w' := by
  have : ∃ r, muslinlaw18_few.f (l.length + 2) l n v = some r := by
    unfold muslinlaw18_few.f
    split
    · exact few_j0 l hl _
    · split
      · exact few_j0 l hl _
      · exact few_j0 l hl _
  obtain ⟨r, hr⟩ := this
  exact ⟨r, muslinlaw18_few.calls _ A c l n v r w hC hc hr⟩

theorem number_f : ∀ (i k : Nat), i < 4294967296 → i < k → muslinref18_Number.f k (i : Int) = some ⟨(Lib.decDigits i).toArray⟩ := by
  intro i
  induction i using Nat.strongRecOn with
  | _ i ih =>
  intro k hi hk
  obtain ⟨m, rfl⟩ : ∃ m, k = m + 1 := ⟨k - 1, by omega⟩
  have hd : [(wrap64 (48 + (Int.tmod (i : Int) 10))) % 256] = ([UInt8.ofNat (48 + i % 10)].map fun c => (c.toNat : Int)) := by
    have h1 : Int.tmod (i : Int) 10 = ((i % 10 : Nat) : Int) := by rw [Int.tmod_eq_emod_of_nonneg (by omega)]; omega
    rw [h1]
    have h2 : wrap64 (48 + ((i % 10 : Nat) : Int)) = ((48 + i % 10 : Nat) : Int) := by unfold wrap64; omega
    rw [h2]
    have h3 : (UInt8.ofNat (48 + i % 10)).toNat = 48 + i % 10 := by
      rw [UInt8.toNat_ofNat']
      omega
    simp only [List.map_cons, List.map_nil, h3]
    congr 1
    omega
  have hq : wrap64 (Int.tdiv (i : Int) 10) = ((i / 10 : Nat) : Int) := by
    have h1 : Int.tdiv (i : Int) 10 = ((i / 10 : Nat) : Int) := by rw [Int.tdiv_eq_ediv_of_nonneg (by omega)]; omega
    rw [h1]
    unfold wrap64
    omega
  simp only [muslinref18_Number.f, Option.bind_some]
  rw [hd, strOfNums_bytes, hq]
  by_cases h10 : i < 10
  · rw [if_pos (by omega), Lib.decDigits, dif_pos h10, Nat.mod_eq_of_lt h10]
  · rw [if_neg (by omega), ih (i / 10) (by omega) m (by omega) (by omega)]
    have hlen : (Lib.decDigits (i / 10)).length ≤ 21 := by
      have := Lib.itoa_length_le ((i / 10 : Nat) : Int) (by omega) (by omega)
      unfold Lib.itoa at this
      rwa [if_neg (by omega), Int.toNat_natCast] at this
    rw [Option.bind_some, if_pos (by
      rw [size_mk, size_mk]
      simp only [List.length_cons, List.length_nil]
      omega)]
    rw [Lib.decDigits.eq_1 i, dif_neg h10]
    congr 1
theorem number_any (i : Nat) (w : World) (hi : i < 4294967296) :
    Calls Tryz.prog 19 #[.int .i64 (i : Int)] w fun e w' => e = .returned (.string ⟨(Lib.itoa (i : Int)).toArray⟩) ∧ Below w.heap.size w w' := by
  have h := muslinref18_Number.calls (i + 1) (i : Int) _ w (number_f i (i + 1) hi (Nat.lt_succ_self _))
  have : Lib.itoa (i : Int) = Lib.decDigits i := by
    unfold Lib.itoa
    rw [if_neg (by omega), Int.toNat_natCast]
  rw [this]
  exact h

/-- Whether a text begins so, its capitals taken as small letters. -/
def beginsF (v p : List UInt8) : Bool := decide ((v.take p.length).map smallB = p)

theorem bt_get (s : ByteArray) (i : Nat) (h : i < s.size) : ∃ c : UInt8, s.data.toList[i]? = some c ∧ bt s (i : Int) = (c.toNat : Int) := by
  refine ⟨s[i]'h, Lib.data_getElem? s i h, ?_⟩
  rw [← bt_at s (i : Int) (by simpa using h)]
  simp
theorem begins_l0 (v p : ByteArray) (hle : p.size ≤ v.size) (hv : v.size < 4294967296) : ∀ (n i k : Nat), p.size - i = n → i ≤ p.size → 2 * n + 1 ≤ k →
    Pbegins.muslinlaw18_begins.l0 k v p (i : Int) = some (decide (((v.data.toList.drop i).take (p.size - i)).map smallB = p.data.toList.drop i)) := by
  intro n
  induction n with
  | zero =>
    intro i k hn hi hk
    obtain ⟨m, rfl⟩ : ∃ m, k = m + 1 := ⟨k - 1, by omega⟩
    simp only [Pbegins.muslinlaw18_begins.l0]
    rw [if_neg (by omega), hn, List.take_zero, List.drop_of_length_le (by rw [← Lib.size_eq]; omega)]
    rfl
  | succ n ih =>
    intro i k hn hi hk
    obtain ⟨m, rfl⟩ : ∃ m, k = m + 2 := ⟨k - 2, by omega⟩
    obtain ⟨c, hc, hbc0⟩ := bt_get v i (by omega)
    have HBc := Lib.hid hbc0
    clear hbc0
    obtain ⟨d, hd, hbd0⟩ := bt_get p i (by omega)
    have HBd := Lib.hid hbd0
    clear hbd0
    have hw : wrap64 ((i : Int) + 1) = ((i + 1 : Nat) : Int) := by unfold wrap64; omega
    have hr := ih (i + 1) m (by omega) (by omega) (by omega)
    obtain ⟨hci, hce⟩ := List.getElem?_eq_some_iff.1 hc
    obtain ⟨hdi, hde⟩ := List.getElem?_eq_some_iff.1 hd
    have hc0 : c.toNat < 256 := c.toNat_lt
    have hgoal : decide (((v.data.toList.drop i).take (p.size - i)).map smallB = p.data.toList.drop i) =
        (decide (smallB c = d) && decide (((v.data.toList.drop (i + 1)).take (p.size - (i + 1))).map smallB = p.data.toList.drop (i + 1))) := by
      rw [List.drop_eq_getElem_cons hci, List.drop_eq_getElem_cons hdi, hce, hde, show p.size - i = (p.size - (i + 1)) + 1 by omega, List.take_succ_cons, List.map_cons]
      by_cases h : smallB c = d
      · subst h; simp
      · simp [h]
    rw [hgoal]
    have tail : ∀ q : Bool, (q = decide (smallB c = d)) → (if q = true then Pbegins.muslinlaw18_begins.l0 m v p ((i + 1 : Nat) : Int) else some false) = some (decide (smallB c = d) && decide (((v.data.toList.drop (i + 1)).take (p.size - (i + 1))).map smallB = p.data.toList.drop (i + 1))) := by
      intro q hq
      rw [← hq, hr]
      cases q <;> rfl
    have hdd : ∀ x : UInt8, ((x.toNat : Int) = (d.toNat : Int)) ↔ x = d := fun x => ⟨fun h => UInt8.toNat_inj.1 (by omega), fun h => by rw [h]⟩
    simp only [Pbegins.muslinlaw18_begins.l0, Pbegins.muslinlaw18_begins.j1, HBc.out, HBd.out, hw]
    rw [if_pos (by omega), if_pos (by omega), if_pos (by omega)]
    by_cases hu : upperB c = true
    · have hu1 := (upperB_iff hu).1
      have hu2 := (upperB_iff hu).2
      have h32 : ((c.toNat : Int) + 32) % 256 = ((smallB c).toNat : Int) := by rw [smallB_up hu]; omega
      rw [if_pos (by omega), if_pos (decide_eq_true (by omega)), if_pos (by omega), if_pos (by omega), h32]
      have := tail (decide (smallB c = d)) rfl
      by_cases h : smallB c = d
      · rw [if_pos ((hdd _).2 h)]
        rwa [if_pos (decide_eq_true h)] at this
      · rw [if_neg (fun he => h ((hdd _).1 he))]
        rwa [if_neg (by simp [h])] at this
    · have hs : smallB c = c := by simp [smallB, hu]
      have hn' : ¬ (65 ≤ c.toNat ∧ c.toNat ≤ 90) := by
        intro h
        apply hu
        unfold upperB
        rw [decide_eq_true h.1, decide_eq_true h.2]
        rfl
      rw [hs] at tail ⊢
      have := tail (decide (c = d)) rfl
      have fin : (if (c.toNat : Int) = (d.toNat : Int) then Pbegins.muslinlaw18_begins.l0 m v p ((i + 1 : Nat) : Int) else some false) = some (decide (c = d) && decide (((v.data.toList.drop (i + 1)).take (p.size - (i + 1))).map smallB = p.data.toList.drop (i + 1))) := by
        by_cases h : c = d
        · rw [if_pos ((hdd _).2 h)]
          rwa [if_pos (decide_eq_true h)] at this
        · rw [if_neg (fun he => h ((hdd _).1 he))]
          rwa [if_neg (by simp [h])] at this
      by_cases h65 : (c.toNat : Int) ≥ 65
      · rw [if_pos h65, if_neg (by rw [decide_eq_true_eq]; omega), if_pos (by omega), if_pos (by omega)]
        exact fin
      · rw [if_neg h65, if_neg (by decide), if_pos (by omega), if_pos (by omega)]
        exact fin
theorem begins_any (v p : ByteArray) (w : World) (hv : v.size < 4294967296) :
    Calls Tryz.prog 18 #[.string v, .string p] w fun e w' => e = .returned (.bool (beginsF v.data.toList p.data.toList)) ∧ Below w.heap.size w w' := by
  have hpl : p.data.toList.length = p.size := (Lib.size_eq p).symm
  have h : Pbegins.muslinlaw18_begins.f (2 * p.size + 1) v p = some (beginsF v.data.toList p.data.toList) := by
    unfold Pbegins.muslinlaw18_begins.f beginsF
    by_cases hlt : v.size < p.size
    · rw [if_pos (by omega)]
      congr 1
      symm
      rw [decide_eq_false]
      intro he
      have := congrArg List.length he
      rw [List.length_map, List.length_take, hpl, ← Lib.size_eq] at this
      omega
    · rw [if_neg (by omega)]
      have := begins_l0 v p (by omega) hv p.size 0 (2 * p.size + 1) rfl (Nat.zero_le _) (Nat.le_refl _)
      rw [List.drop_zero, List.drop_zero, Nat.sub_zero] at this
      rw [hpl]
      exact this
  refine (Pbegins.muslinlaw18_begins.calls _ v p _ w h).mono fun e w' h => ⟨h.1, ?_⟩
  obtain ⟨n, rfl⟩ := h.2.out
  exact below_drewN' (Below.refl _ _) n
end Go.Proofs.YtchooidhieaphaaGreatDoor
