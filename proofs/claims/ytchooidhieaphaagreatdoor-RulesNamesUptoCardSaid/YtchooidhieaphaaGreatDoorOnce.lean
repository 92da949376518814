/- sync.Once's Do and the Replacer's buildOnce, at the Replacer of link.Clean. -/
/-
  sync.Once at a Replacer: what it does the first time.
-/
import Derived.Test.YtchooidhieaphaaGreatDoorRepl
import Derived.Defers
import Derived.Laws.Pointers
import Derived.Laws.LoneSync
import Derived.RegionTactic
import Derived.RegionCalls
import Derived.ChangeAlike
import Derived.Laws.EntriesVeiled
set_option linter.unusedVariables false
set_option linter.unusedSimpArgs false
namespace Go.Proofs.YtchooidhieaphaaGreatDoor
open Go.RowKit Go.Proofs.YtchooidhieaphaaGreatDoorW.PrintWords

theorem disable (w : World) : (callFunc 159 #[]).run Tryz.prog w = .ok (.value (.tuple #[])) w := run_call_mark0 Tryz.func159 (by kernel_rfl) (by kernel_rfl) (by kernel_rfl) .disable (by kernel_rfl) w
theorem enable (w : World) : (callFunc 161 #[]).run Tryz.prog w = .ok (.value (.tuple #[])) w := run_call_mark0 Tryz.func161 (by kernel_rfl) (by kernel_rfl) (by kernel_rfl) .enable (by kernel_rfl) w
theorem acquire (a : Addr) (w : World) : (callFunc 162 #[.pointer (some a)]).run Tryz.prog w = .ok (.value (.tuple #[])) w := run_call_marked Tryz.func162 (by kernel_rfl) (by kernel_rfl) (by kernel_rfl) .acquire (by kernel_rfl) a w
theorem releaseMerge (a : Addr) (w : World) : (callFunc 164 #[.pointer (some a)]).run Tryz.prog w = .ok (.value (.tuple #[])) w := run_call_marked Tryz.func164 (by kernel_rfl) (by kernel_rfl) (by kernel_rfl) .releaseMerge (by kernel_rfl) a w

/-- '(*sync/atomic.Bool).Store(true)', entered as a deferred call. -/
theorem store_deferred (a : Addr) (x : Value) (u : FrameMode) (w : World) (hc : w.cell? a = some x) (hz : w.frozen? a = false) :
    CallsD Tryz.prog 133 #[.pointer (some a), .bool true] u w fun e u' w' => u' = u ∧ (e = .returned (.tuple #[]) ∧ w' = w.drew.setCell a (.int .u32 1)) := by
  have hc' : w.drew.cell? a = some x := by go_simp
  have hz' : w.drew.frozen? a = false := by go_simp
  have hst := run_call_store (P := Tryz.prog) Tryz.func152 (by kernel_rfl) (by kernel_rfl) (by kernel_rfl) (by kernel_rfl) (k := .u32) (y := 1) hc' hz'
  go_enter_d Tryz.func133, Tryz.ntmps133
  go_wp2
  go_region_calls
  all_goals (go_end0; exact ⟨rfl, rfl⟩)

set_option maxRecDepth 100000 in
set_option maxHeartbeats 1600000 in
/-- '(*sync.Mutex).Unlock', entered as a deferred call, the lock held and nobody waiting. -/
theorem unlock_deferred (a : Addr) (u : FrameMode) (w : World) (hc : w.cell? a = some (.int .i32 1)) (hz : w.frozen? a = false) :
    CallsD Tryz.prog 132 #[.pointer (some a)] u w fun e u' w' => u' = u ∧ (e = .returned (.tuple #[]) ∧ w' = w.setCell a (.int .i32 0)) := by
  have hd := disable
  have he := enable
  have hr := releaseMerge
  have hadd := run_call_add (P := Tryz.prog) Tryz.func165 (by kernel_rfl) (by kernel_rfl) (by kernel_rfl) .i32 (by kernel_rfl) (y := -1) (s := 0) hc hz (by simp [go_sem]; rfl)
  have hcv := run_convert_to_unsafe (P := Tryz.prog) (src := 185) (dst := 163) Tryz.underlying185 Tryz.underlying163 (by kernel_rfl) hc
  go_enter_d Tryz.func132, Tryz.ntmps132
  go_wp2
  go_end0
  go_wp2
  go_end0
  exact ⟨rfl, rfl⟩

set_option maxRecDepth 100000 in
set_option maxHeartbeats 1600000 in
/-- '(*sync.Mutex).Lock', the lock free. -/
theorem lock_free (a : Addr) (w : World) (hc : w.cell? a = some (.int .i32 0)) (hz : w.frozen? a = false) :
    Calls Tryz.prog 131 #[.pointer (some a)] w fun e w' => e = .returned (.tuple #[]) ∧ w' = w.setCell a (.int .i32 1) := by
  have hd := disable
  have he := enable
  have ha := acquire
  have hcas := run_call_cas_hit (P := Tryz.prog) Tryz.func160 (by kernel_rfl) (by kernel_rfl) (by kernel_rfl) .i32 (by kernel_rfl) (y := 1) hc hz
  have hc' : (w.setCell a (.int .i32 1)).cell? a = some (.int .i32 1) := World.cell?_setCell_same w a _ hc
  have hcv := run_convert_to_unsafe (P := Tryz.prog) (src := 185) (dst := 163) Tryz.underlying185 Tryz.underlying163 (by kernel_rfl) hc'
  go_enter Tryz.func131, Tryz.ntmps131
  go_wp2
  first | go_end0 | (simp only [Exit.inBlock, Exit.then]; refine bodyPost_ret (results_none rfl _ _ _) rfl ?_) | refine bodyPost_ret (results_none rfl _ _ _) rfl ?_
  go_wp2
  go_end0
  exact ⟨rfl, rfl⟩

/-- The replacements' table at block B, whole. -/
def Table (w : World) (lo B : Nat) : Prop :=
  ∃ cs v, w.heap[B]? = some (.cells cs 149 (0, 0)) ∧ cs.size = 257 ∧ (∀ i, i < 256 → (i ∈ [9, 10, 13] → ∃ g c, cs[i]? = some (.slice (some ⟨g, 0, none⟩) 0 c)) ∧ (i ∉ [9, 10, 13] → cs[i]? = some (.slice none 0 0))) ∧
    cs[256]? = some v ∧ w.ownsRow lo 9 1 v 3 [.string ⟨#[13]⟩, .string ⟨#[10]⟩, .string ⟨#[9]⟩] ∧ lo ≤ B
theorem Stage.table {w w1 : World} {B : Nat} (h : Stage w w1 B [9, 10, 13] [.string ⟨#[13]⟩, .string ⟨#[10]⟩, .string ⟨#[9]⟩]) : Table w1 w.heap.size B := by
  obtain ⟨cs, v, h1, h2, h3, h4, h5, h6, h7⟩ := h
  exact ⟨cs, v, h1, h2, h3, h4, h5, h7⟩
theorem Table.setCell {w : World} {lo B : Nat} (h : Table w lo B) {b : Nat} (hb : b < lo) (i : Nat) (u : Value) : Table (w.setCell ⟨b, i, none⟩ u) lo B := by
  obtain ⟨cs, v, h1, h2, h3, h4, h5, h7⟩ := h
  exact ⟨cs, v, blk_far h1 (by show B ≠ b; omega) u, h2, h3, h4, ownsRow_setCell_below h5 hb u, h7⟩
theorem Table.drew {w : World} {lo B : Nat} (h : Table w lo B) : Table w.drew lo B := h

set_option maxRecDepth 100000 in
set_option maxHeartbeats 400000 in
/-- '(*Replacer).buildOnce'. -/
theorem buildOnce_any (b o c : Nat) (d s u : Int) (w : World) (hb : w.heap[b]? = some (.cells #[.int .u32 d, .int .i32 s, .int .u32 u, .nilIface, .slice (some ⟨o, 0, none⟩) 6 c] 92 (0, 0)))
    (ho : ∀ j u, oldnew[j]? = some u → w.cell? ⟨o, j, none⟩ = some u) :
    Calls Tryz.prog 80 #[.pointer (some ⟨b, 0, none⟩)] w fun e w' => ∃ B w1, e = .returned (.tuple #[]) ∧ Stage w w1 B [9, 10, 13] [.string ⟨#[13]⟩, .string ⟨#[10]⟩, .string ⟨#[9]⟩] ∧ w' = (w1.setCell ⟨b, 3, none⟩ (.iface 150 (.pointer (some ⟨B, 0, none⟩)))).setCell ⟨b, 4, none⟩ (.slice none 0 0) := by
  have HC := Lib.hid (build_any b o c w ((blk_cell hb 4).trans rfl) (ho 0 _ rfl) (ho 1 _ rfl) (ho 2 _ rfl) (ho 3 _ rfl) (ho 4 _ rfl) (ho 5 _ rfl))
  have HB := Lib.hid hb
  clear hb ho
  go_enter Tryz.func80, Tryz.ntmps80
  go_wp2_with fail
  refine HC.out.mono ?_
  rintro e w1 ⟨B, rfl, hS⟩
  obtain ⟨cs, v, _, _, _, _, _, hbel, _⟩ := id hS
  have hb1 := blk_below HB.out hbel
  have c3 := (blk_cell hb1 3).trans rfl
  have f3 := blk_frozen hb1 3
  have c4 := (blk_cell hb1 4).trans rfl
  have f4 := blk_frozen hb1 4
  have HS := Lib.hid hS
  clear hS hb1 hbel
  go_wp2
  go_end0
  exact ⟨B, w1, rfl, HS.out, rfl⟩

/-- The Once is done; the Replacer at b leads to its table. -/
def OnceDone (w w' : World) (b : Nat) : Prop := ∃ (B : Nat) (u : Int), w'.heap[b]? = some (.cells #[.int .u32 1, .int .i32 0, .int .u32 u, .iface 150 (.pointer (some ⟨B, 0, none⟩)), .slice none 0 0] 92 (0, 0)) ∧ Table w' w.heap.size B ∧ w.grownBy w' (some b)

theorem grownBy_setCell {w w' : World} {b : Nat} (h : w.grownBy w' (some b)) (i : Nat) (u : Value) : w.grownBy (w'.setCell ⟨b, i, none⟩ u) (some b) :=
  ⟨h.os, h.tape, h.output, by have := h.size; simpa [World.setCell] using this, fun k hk hne => (Below.heap_setCell _ _ _ _ (by intro e; exact hne (by rw [e]))).trans (h.block k hk hne)⟩
theorem grownBy_drew {w w' : World} {b : Option Nat} (h : w.grownBy w' b) : w.grownBy w'.drew b := ⟨h.os, h.tape, h.output, h.size, h.block⟩

theorem once_world {w w1 : World} {b o c B : Nat} {u : Int} (hb : w.heap[b]? = some (.cells #[.int .u32 0, .int .i32 0, .int .u32 u, .nilIface, .slice (some ⟨o, 0, none⟩) 6 c] 92 (0, 0)))
    (hS : Stage (w.setCell ⟨b, 1, none⟩ (.int .i32 1)) w1 B [9, 10, 13] [.string ⟨#[13]⟩, .string ⟨#[10]⟩, .string ⟨#[9]⟩]) :
    OnceDone w (((((w1.setCell ⟨b, 3, none⟩ (.iface 150 (.pointer (some ⟨B, 0, none⟩)))).setCell ⟨b, 4, none⟩ (.slice none 0 0)).drew.setCell ⟨b, 0, none⟩ (.int .u32 1)).setCell ⟨b, 1, none⟩ (.int .i32 0))) b := by
  have hlt := blk_lt hb
  have hT := hS.table
  have e0 : (w.setCell ⟨b, 1, none⟩ (.int .i32 1)).heap.size = w.heap.size := by simp [World.setCell]
  rw [e0] at hT
  obtain ⟨cs, v, _, _, _, _, _, hbel, _⟩ := hS
  have h1 := blk_below (blk_set hb 1 (.int .i32 1)) hbel
  refine ⟨B, u, ?_, ?_, ?_⟩
  · exact blk_put (blk_drew (blk_set (blk_set h1 3 _) 4 _) |> fun h => blk_set h 0 (.int .u32 1)) 1 (.int .i32 0) (by simp [Array.setIfInBounds])
  · exact ((((hT.setCell hlt 3 _).setCell hlt 4 _).drew.setCell hlt 0 _).setCell hlt 1 _)
  · have g0 : w.grownBy w1 (some b) :=
      ⟨hbel.os, hbel.tape, hbel.output, by have := hbel.size; rw [e0] at this; exact this, fun k hk hne => (hbel.block k (by rw [e0]; exact hk)).trans (Below.heap_setCell _ _ _ _ (by intro e; exact hne (by rw [e])))⟩
    exact grownBy_setCell (grownBy_setCell (grownBy_drew (grownBy_setCell (grownBy_setCell g0 3 _) 4 _)) 0 _) 1 _

set_option maxRecDepth 100000 in
set_option maxHeartbeats 1600000 in
/-- '(*sync.Once).doSlow' with the Replacer's buildOnce. -/
theorem slow_any (b o c : Nat) (u : Int) (w : World) (hb : w.heap[b]? = some (.cells #[.int .u32 0, .int .i32 0, .int .u32 u, .nilIface, .slice (some ⟨o, 0, none⟩) 6 c] 92 (0, 0)))
    (ho : ∀ j u, oldnew[j]? = some u → w.cell? ⟨o, j, none⟩ = some u) (hne : o ≠ b) :
    Calls Tryz.prog 108 #[.pointer (some ⟨b, 0, none⟩), .func (.func 80) #[.pointer (some ⟨b, 0, none⟩)] #[]] w fun e w' => e = .returned (.tuple #[]) ∧ OnceDone w w' b := by
  have h1 := blk_set hb 1 (.int .i32 1)
  have hl := run_call_load (P := Tryz.prog) Tryz.func130 (by kernel_rfl) (by kernel_rfl) (by kernel_rfl) .u32 (by kernel_rfl) (w := w.setCell ⟨b, 1, none⟩ (.int .i32 1)) (a := ⟨b, 0, none⟩) (x := 0) ((blk_cell h1 0).trans rfl)
  have hnot : ∀ (x : Bool) (w : World), (Op.unary .not (.bool x)).run Tryz.prog w = .ok (.bool (!x)) w := fun _ _ => rfl
  have c1 : w.cell? ⟨b, 1, none⟩ = some (.int .i32 0) := (blk_cell hb 1).trans rfl
  have f1 : w.frozen? ⟨b, 1, none⟩ = false := blk_frozen hb 1
  have HC := Lib.hid (buildOnce_any b o c 0 1 u (w.setCell ⟨b, 1, none⟩ (.int .i32 1)) h1 (fun j u h => (World.cell?_setCell_other _ ⟨b, 1, none⟩ ⟨o, j, none⟩ _ (by intro e; exact hne (by injection e with e1; exact e1.symm))).trans (ho j u h)))
  have HB := Lib.hid hb
  clear hb ho h1
  go_enter_defers Tryz.func108, Tryz.ntmps108
  go_wp2_with (first | (go_at_call 131; refine (lock_free ⟨b, 1, none⟩ _ (by go_simp) (by go_simp)).mono ?_; rintro e w' ⟨rfl, rfl⟩) | (go_at_call 107; go_in))
  refine HC.out.mono ?_
  rintro e w' ⟨B, w1, rfl, hS, rfl⟩
  have HW := Lib.hid (once_world HB.out hS)
  obtain ⟨cs, v, _, _, _, _, _, hbel, _⟩ := hS
  have g1 := blk_below (blk_set HB.out 1 (.int .i32 1)) hbel
  have g2 := blk_drew (blk_set (blk_set g1 3 (.iface 150 (.pointer (some ⟨B, 0, none⟩)))) 4 (.slice none 0 0))
  have g3 := blk_set g2 0 (.int .u32 1)
  have G2 := Lib.hid g2
  have G3 := Lib.hid g3
  clear g1 g2 g3 hbel hl hnot
  go_wp2
  refine leaves_cons (f := 133) (args := #[.pointer (some ⟨b, 0, none⟩), .bool true]) (by simp) (by simp [go_sem]) ?_
  refine (store_deferred ⟨b, 0, none⟩ (.int .u32 0) .returning _ ?_ ?_).mono ?_
  · exact (blk_cell G2.out 0).trans rfl
  · exact blk_frozen G2.out 0
  rintro e u' w'' ⟨rfl, rfl, rfl⟩
  refine leaves_cons (f := 132) (args := #[.pointer (some ⟨b, 1, none⟩)]) (by simp [settle]) (by simp [go_sem]) ?_
  refine (unlock_deferred ⟨b, 1, none⟩ _ _ ?_ ?_).mono ?_
  · exact (blk_cell G3.out 1).trans rfl
  · exact blk_frozen G3.out 1
  rintro e u' w'' ⟨rfl, rfl, rfl⟩
  simp [Leaves, settle, results, Tryz.results108]
  exact HW.out

set_option maxRecDepth 100000 in
set_option maxHeartbeats 1600000 in
/-- '(*sync.Once).Do' with the Replacer's buildOnce, the first time. -/
theorem do_any (b o c : Nat) (u : Int) (w : World) (hb : w.heap[b]? = some (.cells #[.int .u32 0, .int .i32 0, .int .u32 u, .nilIface, .slice (some ⟨o, 0, none⟩) 6 c] 92 (0, 0)))
    (ho : ∀ j u, oldnew[j]? = some u → w.cell? ⟨o, j, none⟩ = some u) (hne : o ≠ b) :
    Calls Tryz.prog 79 #[.pointer (some ⟨b, 0, none⟩), .func (.func 80) #[.pointer (some ⟨b, 0, none⟩)] #[]] w fun e w' => e = .returned (.tuple #[]) ∧ OnceDone w w' b := by
  have hl := run_call_load (P := Tryz.prog) Tryz.func130 (by kernel_rfl) (by kernel_rfl) (by kernel_rfl) .u32 (by kernel_rfl) (w := w) (a := ⟨b, 0, none⟩) (x := 0) ((blk_cell hb 0).trans rfl)
  have hnot : ∀ (x : Bool) (w : World), (Op.unary .not (.bool x)).run Tryz.prog w = .ok (.bool (!x)) w := fun _ _ => rfl
  have HC := Lib.hid (slow_any b o c u w hb ho hne)
  clear hb ho
  go_enter Tryz.func79, Tryz.ntmps79
  go_wp2_with (first | (go_at_call 108; refine HC.out.mono ?_; rintro e w' ⟨rfl, hW⟩) | (go_at_call 107; go_in))
  go_end0
  exact ⟨rfl, hW⟩
end Go.Proofs.YtchooidhieaphaaGreatDoor
