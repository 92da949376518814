/- link.Clean returns what cleanF says. Condition: a text below 2^32 - 15 bytes. -/
/-
  link.Clean tells cleanF.
-/
import Derived.Test.YtchooidhieaphaaGreatDoorCutB
import Derived.Shelf.Strings.SlTrimAscii
set_option linter.unusedVariables false
set_option linter.unusedSimpArgs false
namespace Go.Proofs.YtchooidhieaphaaGreatDoor
open Go.Shelf
open Go.RowKit Go.Proofs.YtchooidhieaphaaGreatDoorW.PrintWords

theorem meth_replace (a : Addr) (w : World) : (method 327 150 (.pointer (some a)) "Replace").run Tryz.prog w = .ok (202, .pointer (some a)) w := by kernel_rfl

set_option maxRecDepth 100000 in
set_option maxHeartbeats 800000 in
theorem repl_any (b o c : Nat) (u : Int) (s : ByteArray) (w : World) (hb : w.heap[b]? = some (.cells #[.int .u32 0, .int .i32 0, .int .u32 u, .nilIface, .slice (some ⟨o, 0, none⟩) 6 c] 92 (0, 0)))
    (ho : ∀ j u, oldnew[j]? = some u → w.cell? ⟨o, j, none⟩ = some u) (hne : o ≠ b) (hs : s.size < 4294967281) :
    Calls Tryz.prog 55 #[.pointer (some ⟨b, 0, none⟩), .string s] w fun e w' => e = .returned (.string ⟨(cutF s.data.toList).toArray⟩) ∧ w.grownBy w' (some b) := by
  have hmf : ∀ (fn : Fn) (first cap : Array Value) (w : World), (Instr.makeFunc fn first cap).run Tryz.prog w = .ok (.func fn first cap) w := fun _ _ _ _ => rfl
  have HC := Lib.hid (do_any b o c u w hb ho hne)
  clear hb ho
  go_enter Tryz.func55, Tryz.ntmps55
  go_wp2_with fail
  refine HC.out.mono ?_
  rintro e w1 ⟨rfl, B, u1, hB1, hT, hg⟩
  have c3 : w1.cell? ⟨b, 3, none⟩ = some (.iface 150 (.pointer (some ⟨B, 0, none⟩))) := (blk_cell hB1 3).trans rfl
  have HG := Lib.hid hg
  have HT := Lib.hid hT
  clear hg hT hB1
  have hm := meth_replace
  go_wp2_with fail
  refine (replace_any w.heap.size B s w1 HT.out hs).mono ?_
  rintro e w2 ⟨rfl, hb2⟩
  have HB2 := Lib.hid hb2
  clear hb2 hm
  go_wp2_with fail
  go_ret
  exact ⟨rfl, ⟨HB2.out.os.trans HG.out.os, HB2.out.tape.trans HG.out.tape, HB2.out.output.trans HG.out.output, Nat.le_trans HG.out.size HB2.out.size, fun k hk hn => (HB2.out.block k (Nat.lt_of_lt_of_le hk HG.out.size)).trans (HG.out.block k hk hn)⟩⟩

/-- The bytes that browsers leave out at the ends. -/
def blanks : List UInt8 := [0, 1, 2, 3, 4, 5, 6, 7, 8, 9, 10, 11, 12, 13, 14, 15, 16, 17, 18, 19, 20, 21, 22, 23, 24, 25, 26, 27, 28, 29, 30, 31, 32]
/-- What link.Clean tells. -/
def cleanF (l : List UInt8) : List UInt8 := cutF (Lib.trimS l blanks)

theorem trim_any (s : ByteArray) (w : World) (hs : s.size < 4294967281) :
    Calls Tryz.prog 56 #[.string s, .string ⟨blanks.toArray⟩] w fun e w' => e = .returned (.string ⟨(Lib.trimS s.data.toList blanks).toArray⟩) ∧ Below w.heap.size w w' :=
  Any.strings_Trim_laid Tryz.lays160 (by kernel_rfl) s ⟨blanks.toArray⟩ w (by omega) (by decide) (ascii_of_all (by decide))
theorem cutF_le (l : List UInt8) : (cutF l).length ≤ l.length := List.length_filter_le _ _
theorem dropWhile_le {p : UInt8 → Bool} (l : List UInt8) : (l.dropWhile p).length ≤ l.length := (List.dropWhile_suffix p).length_le
theorem trimS_le (l : List UInt8) (cs : List UInt8) : (Lib.trimS l cs).length ≤ l.length := by
  unfold Lib.trimS Lib.trimRightS Lib.trimLeftS
  refine Nat.le_trans (dropWhile_le _) ?_
  rw [List.length_reverse]
  refine Nat.le_trans (dropWhile_le _) ?_
  rw [List.length_reverse]
  exact Nat.le_refl _
theorem cleanF_le (l : List UInt8) : (cleanF l).length ≤ l.length := Nat.le_trans (cutF_le _) (trimS_le _ _)
theorem size_mk (l : List UInt8) : (⟨l.toArray⟩ : ByteArray).size = l.length := by simp [ByteArray.size]

set_option maxRecDepth 100000 in
set_option maxHeartbeats 800000 in
/-- link.Clean. -/
theorem clean_any (s : ByteArray) (w : World) (hs : s.size < 4294967281) :
    Calls Tryz.prog 37 #[.string s] w fun e w' => e = .returned (.string ⟨(cleanF s.data.toList).toArray⟩) ∧ Below w.heap.size w w' := by
  have ht : (⟨(Lib.trimS s.data.toList blanks).toArray⟩ : ByteArray).size < 4294967281 := by
    rw [size_mk]
    have := trimS_le s.data.toList blanks
    rw [← Lib.size_eq] at this
    omega
  have hsrc : ∀ j u, oldnew[j]? = some u → (w.alloc (Obj.cells #[Value.string { data := #[9] }, Value.string { data := #[] }, Value.string { data := #[10] }, Value.string { data := #[] }, Value.string { data := #[13] }, Value.string { data := #[] }] 9)).cell? ⟨w.heap.size, j, none⟩ = some u :=
    fun j u h => (blk_cell (blk_new w _) j).trans (by rw [← h]; simp [oldnew])
  go_enter Tryz.func37, Tryz.ntmps37
  go_wp2_with fail
  refine (newReplacer_any w.heap.size 6 _ hsrc).mono ?_
  rintro e w1 ⟨b, o, c, rfl, ⟨u, hb⟩, hne, hbl, hol, hcells, hbel⟩
  have HB := Lib.hid hb
  have HC := Lib.hid hcells
  have HL := Lib.hid hbel
  clear hsrc hcells hb hbel
  go_wp2_with fail
  refine (trim_any s w1 hs).mono ?_
  rintro e w2 ⟨rfl, hb2⟩
  have HB2 := Lib.hid hb2
  clear hb2
  go_wp2_with fail
  refine (repl_any b o c u _ w2 (blk_below HB.out HB2.out) (fun j u h => cell_later HB2.out (HC.out j u h)) hne ht).mono ?_
  rintro e w3 ⟨rfl, hg⟩
  have HG := Lib.hid hg
  clear hg
  go_wp2_with fail
  go_ret
  refine ⟨by simp [cleanF], ?_⟩
  have h1 : Below w.heap.size w w1 := ((Below.refl _ w).alloc (Nat.le_refl _) _).trans (HL.out.mono (by simp))
  have h2 := below_then' h1 HB2.out
  exact h2.grown HG.out h2.size (fun k hk => by
    obtain rfl : b = k := by injection hk
    simp at hbl
    omega)
end Go.Proofs.YtchooidhieaphaaGreatDoor
