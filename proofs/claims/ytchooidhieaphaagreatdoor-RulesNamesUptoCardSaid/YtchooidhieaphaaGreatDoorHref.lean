/- Atoi, Itoa and judge.href return what their functions say. Condition: texts below 2^32 - 15 bytes. -/
import Derived.Test.YtchooidhieaphaaGreatDoorFind
import Derived.Lib.AppendIntMem
set_option linter.unusedVariables false
set_option linter.unusedSimpArgs false
namespace Go.Proofs.YtchooidhieaphaaGreatDoor
open Go.RowKit Go.Proofs.YtchooidhieaphaaGreatDoorW.PrintWords PRulesValues

/-- What strconv.Atoi reads, if it reads a number. -/
def atoiF (l : List UInt8) : Option Int := match Lib.atoiAll l with | .ok v => some v | _ => none
theorem atoi_any (s : ByteArray) (w : World) (hG : Good w) (hs : s.size < 4294967281) :
    Calls Tryz.prog 43 #[.string s] w fun e w' => (∃ v er, e = .returned (.tuple #[.int .i64 v, er]) ∧ ((atoiF s.data.toList = some v ∧ er = .nilIface) ∨ (atoiF s.data.toList = none ∧ ∃ t p, er = .iface t p))) ∧ Below w.heap.size w w' := by
  unfold atoiF
  rcases h : Lib.atoiAll s.data.toList with v | _ | _
  · refine Calls.mono (Any.strconv_Atoi_ok Tryz.laysC172 s (by omega) v h w : Calls Tryz.prog 43 #[.string s] w _) fun _ _ h => ⟨⟨v, _, h.1, .inl ⟨rfl, rfl⟩⟩, ?_⟩
    rcases h.2 with rfl | ⟨t, rfl⟩
    · exact Below.refl _ _
    · exact Lib.bytesWorld_below _ _ _
  · obtain ⟨t, p, hv⟩ := hG.errS
    refine Calls.mono (Any.strconv_Atoi_syntax_var Tryz.laysC172 s (by omega) h t p w hv : Calls Tryz.prog 43 #[.string s] w _) fun _ _ h => ?_
    obtain ⟨N, h1, h2, h3, h4⟩ := h
    exact ⟨⟨_, _, h1, .inr ⟨rfl, _, _, rfl⟩⟩, h4⟩
  · obtain ⟨t, p, hv⟩ := hG.errR
    refine Calls.mono (Any.strconv_Atoi_range_var Tryz.laysC172 s (by omega) h t p w hv : Calls Tryz.prog 43 #[.string s] w _) fun _ _ h => ?_
    obtain ⟨N, h1, h2, h3, h4⟩ := h
    exact ⟨⟨_, _, h1, .inr ⟨rfl, _, _, rfl⟩⟩, h4⟩
theorem itoa_any (n : Int) (w : World) (hG : Good w) (h0 : -9223372036854775808 ≤ n) (h1 : n ≤ 9223372036854775807) :
    Calls Tryz.prog 44 #[.int .i64 n] w fun e w' => e = .returned (.string ⟨(Lib.itoa n).toArray⟩) ∧ Below w.heap.size w w' :=
  (Tryz.strconv_Itoa n h0 h1 w hG.pow10).mono fun _ _ h => ⟨h.1, by obtain ⟨k, os, rfl⟩ := h.2; exact Lib.below_grow _ _ (Nat.le_refl _) _ _⟩
theorem atoiF_bounds {l : List UInt8} {v : Int} (h : atoiF l = some v) : -9223372036854775808 ≤ v ∧ v ≤ 9223372036854775807 := by
  unfold atoiF at h
  split at h
  · rename_i v' h'
    injection h with h
    subst h
    exact Lib.atoiAll_bounds h'
  · cases h

def hrefF (v : List UInt8) : List UInt8 × Bool := if 1 ≤ kindF v ∧ kindF v ≤ 3 then (cleanF v, true) else ([], false)
set_option maxRecDepth 100000 in
set_option maxHeartbeats 1600000 in
theorem href_any (b1 b2 b3 : Bool) (A : Option Addr) (n c : Nat) (v : ByteArray) (w : World) (hG : Good w) (hv : v.size < 4294967281) :
    Calls Tryz.prog 23 #[.agg #[.bool b1, .bool b2, .bool b3, .slice A n c], .string v] w fun en w' => en = .returned (.tuple #[.string ⟨(hrefF v.data.toList).1.toArray⟩, .bool (hrefF v.data.toList).2]) ∧ Below w.heap.size w w' := by
  obtain ⟨W0, hW0⟩ : ∃ W0, w.alloc (Obj.cells #[Value.bool b1, Value.bool b2, Value.bool b3, .slice A n c] 43) = W0 := ⟨_, rfl⟩
  have hB0 : Below w.heap.size w W0 := hW0 ▸ (Below.refl _ _).alloc (Nat.le_refl _) _
  have HB0 := Lib.hid hB0
  have HW0 := Lib.hid hW0
  have HKi := Lib.hid (kind_any v W0 (hG.below hB0) hv)
  have HC := Lib.hid (fun w1 => clean_any v w1 hv)
  have hk := kindF_cases v.data.toList
  have hF : hrefF v.data.toList = if 1 ≤ kindF v.data.toList ∧ kindF v.data.toList ≤ 3 then (cleanF v.data.toList, true) else ([], false) := rfl
  rw [hF]
  obtain ⟨k, hkk⟩ : ∃ k, kindF v.data.toList = k := ⟨_, rfl⟩
  rw [hkk] at HKi hk ⊢
  clear hkk hW0 hB0 hG hF
  rcases hk with rfl | rfl | rfl | rfl | rfl | rfl
  all_goals
    go_enter Tryz.func23, Tryz.ntmps23
    go_wp2_with fail
    rw [HW0.out]
    refine HKi.out.mono ?_
    rintro en w1 ⟨rfl, hb1⟩
    have HB1 := Lib.hid (below_then' HB0.out hb1)
    clear hb1
    go_wp2_with fail
    first
      | (refine (HC.out w1).mono ?_
         rintro en w2 ⟨rfl, hb2⟩
         have HB2 := Lib.hid (below_then' HB1.out hb2)
         clear hb2
         go_wp2_with fail
         go_ret2
         exact ⟨rfl, HB2.out⟩)
      | (go_ret2
         exact ⟨rfl, HB1.out⟩)
end Go.Proofs.YtchooidhieaphaaGreatDoor
