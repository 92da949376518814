/- link.Clean returns what cleanF says; css.small and the document's Small make capitals small. Condition: texts below 2^32 - 96 bytes. -/
import Derived.Test.YtchooidhieaphaaGreatDoorBase
import Derived.Test.YtchooidhieaphaaGreatDoorWords
import Derived.Lib.ConvBytes
import Derived.Lib.AtoiErrMem
import Derived.Deep.WholeRow
import Derived.Defers
import Derived.Laws.Pointers
import Derived.Laws.LoneSync
import Derived.RegionTactic
import Derived.RegionCalls
import Derived.ChangeAlike
import Derived.Laws.EntriesVeiled
import Derived.Test.YtchooidhieaphaaGreatDoorShelf
import Derived.Deep.DeepCutAuto
import Derived.Deep.CutBlock
import Derived.Deep.LoopGhost
import Derived.Deep.QuietTactic
import Derived.BigQuiet
import Derived.Shelf.Strings.SlTrimAscii
set_option linter.unusedVariables false
set_option linter.unusedSimpArgs false
namespace Go.Proofs.YtchooidhieaphaaGreatDoor
open Go.RowKit Go.Proofs.YtchooidhieaphaaGreatDoorW.PrintWords
theorem info9 : (Tryz.prog.info? 9).map (fun i => (i.zero, i.size, i.bytes)) = some (some (.string ⟨#[]⟩), 1, 16) := by kernel_rfl
/-- What NewReplacer is handed. -/
def oldnew : List Value := [.string ⟨#[9]⟩, .string ⟨#[]⟩, .string ⟨#[10]⟩, .string ⟨#[]⟩, .string ⟨#[13]⟩, .string ⟨#[]⟩]
/-- A Replacer's five cells at block b. -/
def ReplAt (w : World) (b : Nat) (d s : Int) (r v : Value) : Prop := ∃ u : Int, w.heap[b]? = some (.cells #[.int .u32 d, .int .i32 s, .int .u32 u, r, v] 92 (0, 0))
/-- A new Replacer. -/
def NewRepl (w w' : World) (e : Ending) : Prop := ∃ b o c, e = .returned (.pointer (some ⟨b, 0, none⟩)) ∧ ReplAt w' b 0 0 .nilIface (.slice (some ⟨o, 0, none⟩) 6 c) ∧ o ≠ b ∧ w.heap.size ≤ b ∧ w.heap.size ≤ o ∧ (∀ j u, oldnew[j]? = some u → w'.cell? ⟨o, j, none⟩ = some u) ∧ Below w.heap.size w w'
set_option maxRecDepth 100000 in
set_option maxHeartbeats 400000 in
theorem newReplacer_any (o c : Nat) (w : World) (hc : ∀ j u, oldnew[j]? = some u → w.cell? ⟨o, j, none⟩ = some u) :
    Calls Tryz.prog 54 #[.slice (some ⟨o, 0, none⟩) 6 c] w fun e w' => NewRepl w w' e := by
  obtain ⟨i9, hi, hz0, hz1, hz2⟩ := info_parts info9
  have HC := Lib.hid hc
  clear hc
  go_enter Tryz.func54, Tryz.ntmps54
  go_wp2_with (at_builtin; go_loud (refine wpList_append_own _ rfl _ _ 73 rfl w.heap.size 9 i9 (.string ⟨#[]⟩) 1 16 Tryz.underlying73 hi hz0 hz1 hz2 rfl (by decide) (.slice none 0 0) 0 [] rfl ⟨rfl, .inl ⟨rfl, rfl⟩⟩ ⟨o, 0, none⟩ 6 c oldnew rfl rfl ?c1 ?c2 (by decide) (by decide) (Nat.le_refl _) ?_))
  case c1 => exact fun j u h => by have := HC.out j u h; rw [Addr.add_lit, Nat.zero_add]; exact this
  case c2 => decide
  intro v' w1 hown hgr hne
  obtain ⟨g, cap, cur, hv, hg, hcur, hcap, hmax, hsz, htk⟩ : ∃ g cap cur, v' = .slice (some ⟨g, 0, none⟩) 6 cap ∧ w.heap.size ≤ g ∧ w1.heap[g]? = some (.cells cur 9 (0, 0)) ∧ 6 ≤ cap ∧ cap ≤ maxLen ∧ cur.size = cap * 1 ∧ cur.toList.take (6 * 1) = oldnew := by
    rcases hown.2 with h | h
    · exact absurd h.1 (by simpa using hne)
    · exact h
  have hb : Below w.heap.size w w1 := (Below.refl _ w).grown hgr (Nat.le_refl _) (by intro k hk; cases hk)
  have HO := Lib.hid hown
  have HB := Lib.hid hb
  have HC2 := Lib.hid hcur
  have HT := Lib.hid htk
  have HS := Lib.hid hsz
  clear hown hb hcur htk hsz hne hgr
  rw [hv]
  clear hv
  go_wp2
  go_ret
  have hlt : g < w1.heap.size := blk_lt HC2.out
  refine ⟨w1.heap.size, g, cap, rfl, ⟨0, by simpa using heap_alloc_new w1 _⟩, by omega, HB.out.size, hg, fun j u h => ?_, HB.out.alloc HB.out.size _⟩
  have h2 : (w1.alloc (Obj.cells #[Value.int IntKind.u32 0, Value.int IntKind.i32 0, Value.int IntKind.u32 0, Value.nilIface, Value.slice (some { block := g, off := 0 }) 6 cap] 92)).cell? ⟨g, j, none⟩ = w1.cell? ⟨g, j, none⟩ :=
    World.cell?_of_block (w := w1) (Below.heap_alloc w1 _ g hlt)
  rw [h2, cell_of_row w1 g j cur 9 (0, 0) HC2.out]
  have h3 : j < 6 := by
    have := (List.getElem?_eq_some_iff.1 h).1
    simpa [oldnew] using this
  have h4 := HT.out
  rw [← h4] at h
  rw [List.getElem?_take_of_lt (by omega)] at h
  simpa using h
theorem zero149_size : Tryz.zeroCells149.size = 257 := by kernel_rfl
theorem zero149_set (v : Value) (hv : v.oneCell' = true) : (Tryz.zeroCells149.setIfInBounds 256 v).all (·.oneCell') = true := by
  have h : Tryz.zeroCells149.all (·.oneCell') = true := by kernel_rfl
  rw [Array.all_eq_true] at h ⊢
  intro i hi
  rw [Array.getElem_setIfInBounds]
  split
  · exact hv
  · exact h i (by simpa using hi)
theorem store149 (W : World) (v : Value) (hv : v.oneCell' = true) : (storeCells ⟨W.heap.size, 0, none⟩ (Tryz.zeroCells149.toList.set 256 v) 0).run Tryz.prog (W.alloc (.cells Tryz.zeroCells149 149)) = .ok () (W.alloc (.cells (Tryz.zeroCells149.setIfInBounds 256 v) 149)) := by
  rw [← Array.toList_setIfInBounds]
  exact run_storeCells_new W 149 _ _ (by rw [Array.size_setIfInBounds, zero149_size]; kernel_rfl) (by simp) (zero149_set v hv)
/-- A table of replacements under way: block B; what is in it is to be left out; the list of these. -/
def Stage (w wr : World) (B : Nat) (D : List Nat) (S : List Value) : Prop :=
  ∃ cs v, wr.heap[B]? = some (.cells cs 149 (0, 0)) ∧ cs.size = 257 ∧ (∀ i, i < 256 → (i ∈ D → ∃ g c, cs[i]? = some (.slice (some ⟨g, 0, none⟩) 0 c)) ∧ (i ∉ D → cs[i]? = some (.slice none 0 0))) ∧
    cs[256]? = some v ∧ wr.ownsRow w.heap.size 9 1 v D.length S ∧ Below w.heap.size w wr ∧ w.heap.size ≤ B
theorem stage_start (w : World) : Stage w ((w.alloc (.cells #[.string ⟨#[]⟩, .string ⟨#[]⟩, .string ⟨#[]⟩] 9)).alloc (.cells (Tryz.zeroCells149.setIfInBounds 256 (.slice (some ⟨w.heap.size, 0, none⟩) 0 3)) 149)) (w.heap.size + 1) [] [] := by
  refine ⟨_, .slice (some ⟨w.heap.size, 0, none⟩) 0 3, by simpa using heap_alloc_new (w.alloc (.cells #[.string ⟨#[]⟩, .string ⟨#[]⟩, .string ⟨#[]⟩] 9)) _, by rw [Array.size_setIfInBounds, zero149_size], fun i hi => ⟨fun h => (by cases h), fun _ => ?_⟩, ?_, ⟨rfl, .inr ⟨w.heap.size, 3, #[.string ⟨#[]⟩, .string ⟨#[]⟩, .string ⟨#[]⟩], rfl, Nat.le_refl _, ?_, Nat.zero_le _, by decide, rfl, rfl⟩⟩, ((Below.refl _ _).alloc (Nat.le_refl _) _).alloc (by simp) _, by omega⟩
  · have h : Tryz.zeroCells149.toList = List.replicate 256 (.slice none 0 0) ++ [.slice none 0 0] := by kernel_rfl
    rw [Array.getElem?_setIfInBounds_ne (by omega), ← Array.getElem?_toList, h]
    rw [List.getElem?_append_left (by rw [List.length_replicate]; exact hi), List.getElem?_replicate, if_pos hi]
  · exact Array.getElem?_setIfInBounds_self_of_lt (by rw [zero149_size]; decide)
  · exact blk_alloc (blk_new w _) _
theorem own_ne_B {w wr : World} {B n : Nat} {cs : Array Value} {v : Value} {S : List Value} (hB : wr.heap[B]? = some (.cells cs 149 (0, 0))) (hown : wr.ownsRow w.heap.size 9 1 v n S) : some B ≠ v.ownBlock := by
  rcases hown.2 with h | ⟨g, cap, cur, hv, hg, hcur, _⟩
  · rw [h.1]; simp [Value.ownBlock]
  · rw [hv]
    intro e
    simp only [Value.ownBlock, Option.some.injEq] at e
    exact blk_ne hB hcur (by decide) e
theorem stage_mid {w wr w1 : World} {B n : Nat} {cs : Array Value} {v : Value} {S : List Value} (hB : wr.heap[B]? = some (.cells cs 149 (0, 0))) (hown : wr.ownsRow w.heap.size 9 1 v n S) (O1 O2 : Obj)
    (hg : ((wr.alloc O1).alloc O2).grownBy w1 v.ownBlock) : w1.heap[B]? = some (.cells cs 149 (0, 0)) :=
  blk_grown (blk_alloc (blk_alloc hB O1) O2) hg (own_ne_B hB hown)
theorem below_bytesWorld {B : Nat} {w W : World} (h : Below B w W) (hB : B ≤ W.heap.size) (e : TypeId) (s : ByteArray) : Below B w (Lib.bytesWorld W e s) := h.trans ((Lib.bytesWorld_below W e s).mono hB)
theorem stage_end {w wr w1 : World} {B : Nat} {D : List Nat} {S S' : List Value} {cs : Array Value} {v v' : Value} (hB : wr.heap[B]? = some (.cells cs 149 (0, 0))) (hsz : cs.size = 257)
    (hcs : ∀ i, i < 256 → (i ∈ D → ∃ g c, cs[i]? = some (.slice (some ⟨g, 0, none⟩) 0 c)) ∧ (i ∉ D → cs[i]? = some (.slice none 0 0)))
    (hown : wr.ownsRow w.heap.size 9 1 v D.length S) (hbel : Below w.heap.size w wr) (hBl : w.heap.size ≤ B) (O1 O2 : Obj) (hg : ((wr.alloc O1).alloc O2).grownBy w1 v.ownBlock)
    (hown' : w1.ownsRow w.heap.size 9 1 v' (D.length + 1) S') (x : Nat) (hx : x < 256) (g c : Nat) :
    Stage w ((Lib.bytesWorld (w1.setCell ⟨B, 256, none⟩ v') 5 ⟨#[]⟩).setCell ⟨B, x, none⟩ (.slice (some ⟨g, 0, none⟩) 0 c)) B (x :: D) S' := by
  have h1 := stage_mid hB hown O1 O2 hg
  have h2 := blk_set h1 256 v'
  have hlt := blk_lt h2
  have h3 : (Lib.bytesWorld (w1.setCell ⟨B, 256, none⟩ v') 5 ⟨#[]⟩).heap[B]? = some (.cells (cs.setIfInBounds 256 v') 149 (0, 0)) := (Lib.bytesWorld_at_old _ 5 _ B hlt).trans h2
  have h4 := blk_set h3 x (.slice (some ⟨g, 0, none⟩) 0 c)
  have hne : some B ≠ v'.ownBlock := own_ne_B h1 hown'
  refine ⟨_, v', h4, by simp [hsz], fun i hi => ?_, ?_, ?_, ?_, hBl⟩
  · by_cases e : i = x
    · subst e
      refine ⟨fun _ => ⟨g, c, ?_⟩, fun h => absurd (List.mem_cons_self ..) h⟩
      exact Array.getElem?_setIfInBounds_self_of_lt (by rw [Array.size_setIfInBounds, hsz]; omega)
    · have h5 : ((cs.setIfInBounds 256 v').setIfInBounds x (.slice (some ⟨g, 0, none⟩) 0 c))[i]? = cs[i]? := by
        rw [Array.getElem?_setIfInBounds_ne (by omega), Array.getElem?_setIfInBounds_ne (by omega)]
      rw [h5]
      have := hcs i hi
      refine ⟨fun h => this.1 ?_, fun h => this.2 (fun h' => h (List.mem_cons_of_mem _ h'))⟩
      rcases List.mem_cons.1 h with h | h
      · exact absurd h e
      · exact h
  · rw [Array.getElem?_setIfInBounds_ne (by omega)]
    exact Array.getElem?_setIfInBounds_self_of_lt (by rw [hsz]; decide)
  · have k1 := ownsRow_setCell_other hown' (a := ⟨B, 256, none⟩) (fun e => hne e.symm) v'
    have k2 : (Lib.bytesWorld (w1.setCell ⟨B, 256, none⟩ v') 5 ⟨#[]⟩).ownsRow w.heap.size 9 1 v' (D.length + 1) S' :=
      k1.kept (grown_of_below (Lib.bytesWorld_below _ _ _) none) (Classical.em _)
    exact ownsRow_setCell_other k2 (a := ⟨B, x, none⟩) (fun e => hne e.symm) _
  · have b1 : Below w.heap.size w w1 := ((hbel.alloc hbel.size O1).alloc (by simp; have := hbel.size; omega) O2).grown hg (by simp; have := hbel.size; omega) (fun k hk => by
      rcases hown.2 with h | ⟨g', cap, cur, hv, hg', _⟩
      · rw [h.1] at hk; cases hk
      · rw [hv] at hk; cases hk; exact hg')
    have b2 := b1.setCell (p := ⟨B, 256, none⟩) hBl v'
    exact (below_bytesWorld b2 (by have := b2.size; exact this) 5 ⟨#[]⟩).setCell (p := ⟨B, x, none⟩) hBl _
set_option maxRecDepth 100000 in
set_option maxHeartbeats 1000000 in
theorem build_any (b o c : Nat) (w : World) (hr : w.cell? ⟨b, 4, none⟩ = some (.slice (some ⟨o, 0, none⟩) 6 c))
    (h0 : w.cell? ⟨o, 0, none⟩ = some (.string ⟨#[9]⟩)) (h1 : w.cell? ⟨o, 1, none⟩ = some (.string ⟨#[]⟩)) (h2 : w.cell? ⟨o, 2, none⟩ = some (.string ⟨#[10]⟩))
    (h3 : w.cell? ⟨o, 3, none⟩ = some (.string ⟨#[]⟩)) (h4 : w.cell? ⟨o, 4, none⟩ = some (.string ⟨#[13]⟩)) (h5 : w.cell? ⟨o, 5, none⟩ = some (.string ⟨#[]⟩)) :
    Calls Tryz.prog 109 #[.pointer (some ⟨b, 0, none⟩)] w fun e w' => ∃ B, e = .returned (.iface 150 (.pointer (some ⟨B, 0, none⟩))) ∧ Stage w w' B [9, 10, 13] [.string ⟨#[13]⟩, .string ⟨#[10]⟩, .string ⟨#[9]⟩] := by
  have hmk : ∀ w, (Instr.makeSlice 73 (.int .i64 0) (.int .i64 3)).run Tryz.prog w = .ok (.slice (some ⟨w.heap.size, 0, none⟩) 0 3) (w.alloc (.cells #[.string ⟨#[]⟩, .string ⟨#[]⟩, .string ⟨#[]⟩] 9)) := fun _ => by kernel_rfl
  have hst := store149 (w.alloc (.cells #[.string ⟨#[]⟩, .string ⟨#[]⟩, .string ⟨#[]⟩] 9)) (.slice (some ⟨w.heap.size, 0, none⟩) 0 3) rfl
  simp only [World.size_alloc] at hst
  obtain ⟨i9, hi, hz0, hz1, hz2⟩ := info_parts info9
  go_enter Tryz.func109, Tryz.ntmps109
  go_wp2
  go_loop [4, 5] (fun a i => (a = .bool true ∧ i = .int .i64 0) ∨ (a = .bool false ∧ (i = .int .i64 2 ∨ i = .int .i64 4 ∨ i = .int .i64 6))) (fun _ i => 8 - (intOf i).toNat)
  case atStart => exact .inl ⟨rfl, rfl⟩
  case round =>
    rcases hrel with ⟨rfl, rfl⟩ | ⟨rfl, rfl | rfl | rfl⟩
    · go_wp2
      go_round
      case rel => exact .inr ⟨rfl, .inl rfl⟩
      case measure => simp [intOf]
    · go_wp2
      go_round
      case rel => exact .inr ⟨rfl, .inr (.inl rfl)⟩
      case measure => simp [intOf]
    · go_wp2
      go_round
      case rel => exact .inr ⟨rfl, .inr (.inr rfl)⟩
      case measure => simp [intOf]
    · go_wp2
      go_loopw [12] (fun i wr => (i = .int .i64 4 ∧ Stage w wr (w.heap.size + 1) [] []) ∨ (i = .int .i64 2 ∧ Stage w wr (w.heap.size + 1) [13] [.string ⟨#[13]⟩]) ∨ (i = .int .i64 0 ∧ Stage w wr (w.heap.size + 1) [10, 13] [.string ⟨#[13]⟩, .string ⟨#[10]⟩]) ∨ (i = .int .i64 (-2) ∧ Stage w wr (w.heap.size + 1) [9, 10, 13] [.string ⟨#[13]⟩, .string ⟨#[10]⟩, .string ⟨#[9]⟩])) (fun i _ => (intOf i + 6).toNat)
      case atStart => exact .inl ⟨rfl, stage_start w⟩
      case round =>
        clear hst hmk
        rcases hrel with ⟨rfl, hS⟩ | ⟨rfl, hS⟩ | ⟨rfl, hS⟩ | ⟨rfl, hS⟩
        · obtain ⟨cs, v, hB, hsz, hcs, hv, hown, hbel, hBl⟩ := hS
          have k1 := cell_later hbel h4
          have k2 := cell_later hbel h5
          have cX : wr.cell? ⟨w.heap.size + 1, 13, none⟩ = some (.slice none 0 0) := (blk_cell hB 13).trans ((hcs 13 (by decide)).2 (by decide))
          have c256 : wr.cell? ⟨w.heap.size + 1, 256, none⟩ = some v := (blk_cell hB 256).trans hv
          have hnil := fun (W : World) => Lib.run_eql_slice_nil (P := Tryz.prog) W 50 5 none 0 0 0 0 Tryz.underlying50
          have hx : ∀ h : 0 < (⟨#[13]⟩ : ByteArray).size, ((⟨#[13]⟩ : ByteArray)[0]'h).toNat = 13 := fun _ => rfl
          have hcv := fun (W : World) => run_convert_bytes_arg (P := Tryz.prog) (W.alloc (.cells #[.int .u8 13] 5)) 50 5 Tryz.underlying50 Tryz.underlying5 W.heap.size 0 1 1 [13] rfl (fun i hi => by obtain rfl : i = 0 := (by simp at hi; omega); simp) 9 Tryz.underlying9
          have HB := Lib.hid hB
          have HC := Lib.hid hcs
          have HZ := Lib.hid hsz
          have HV := Lib.hid hv
          have HO := Lib.hid hown
          have HL := Lib.hid hbel
          clear hB hcs hsz hv hown hbel h0 h1 h2 h3 h4 h5 hr
          have hS := fun (W : World) => Lib.run_convert_string_bytes (P := Tryz.prog) W 9 50 5 ⟨#[]⟩ Tryz.underlying9 Tryz.underlying50 Tryz.underlying5
          go_wp2_with (at_builtin; go_loud (refine wpList_append_own _ rfl _ _ 73 rfl w.heap.size 9 i9 (.string ⟨#[]⟩) 1 16 Tryz.underlying73 hi hz0 hz1 hz2 rfl (by decide) v 0 [] rfl ((HO.out.alloc _).alloc _) ⟨wr.heap.size + 1, 0, none⟩ 1 1 [.string ⟨#[13]⟩] rfl rfl ?c1 ?c2 (by decide) (by decide) ?c3 ?_))
          case c1 =>
            intro j u hj
            have hj0 : j = 0 := by
              have := (List.getElem?_eq_some_iff.1 hj).1
              simp at this
              omega
            subst hj0
            obtain rfl : Value.string ⟨#[13]⟩ = u := by simpa using hj
            rw [Addr.add_zero']
            have := blk_cell (heap_alloc_new (wr.alloc (Obj.cells #[Value.int IntKind.u8 13] 5)) (Obj.cells #[Value.string (strOfNums [13])] 9)) 0
            rw [World.size_alloc] at this
            exact this
          case c2 => decide
          case c3 => have := HL.out.size; simp; omega
          intro v' w1 hown' hgr hne
          obtain ⟨g', n', c', hv'⟩ : ∃ g n c, v' = .slice (some ⟨g, 0, none⟩) n c := by
            rcases hown'.2 with h | ⟨g, cap, cur, hv, _⟩
            · exact absurd h.1 (by simpa using hne)
            · exact ⟨g, _, cap, hv⟩
          have hm := stage_mid HB.out HO.out _ _ hgr
          have d256 : w1.cell? ⟨w.heap.size + 1, 256, none⟩ = some v := (blk_cell hm 256).trans HV.out
          have f256 : w1.frozen? ⟨w.heap.size + 1, 256, none⟩ = false := blk_frozen hm 256
          have dX : (Lib.bytesWorld (w1.setCell ⟨w.heap.size + 1, 256, none⟩ v') 5 ⟨#[]⟩).cell? ⟨w.heap.size + 1, 13, none⟩ = some (.slice none 0 0) := by
            rw [Lib.bytesWorld_old _ _ _ _ (blk_lt (blk_set hm 256 v')), blk_cell (blk_set hm 256 v') 13, Array.getElem?_setIfInBounds_ne (by decide)]
            exact (HC.out 13 (by decide)).2 (by decide)
          have fX : (Lib.bytesWorld (w1.setCell ⟨w.heap.size + 1, 256, none⟩ v') 5 ⟨#[]⟩).frozen? ⟨w.heap.size + 1, 13, none⟩ = false :=
            blk_frozen ((Lib.bytesWorld_at_old _ 5 _ _ (blk_lt (blk_set hm 256 v'))).trans (blk_set hm 256 v')) 13
          have HE := Lib.hid (fun (g c : Nat) => stage_end HB.out HZ.out HC.out HO.out HL.out (by omega) _ _ hgr hown' 13 (by decide) g c)
          clear hm cX c256 hgr hown' hne k1 k2
          rw [hv'] at dX fX HE ⊢
          clear hv'
          go_wp2
          go_roundw
          case rel => exact .inr (.inl ⟨rfl, HE.out _ _⟩)
          case measure => simp [intOf]
        · obtain ⟨cs, v, hB, hsz, hcs, hv, hown, hbel, hBl⟩ := hS
          have k1 := cell_later hbel h2
          have k2 := cell_later hbel h3
          have cX : wr.cell? ⟨w.heap.size + 1, 10, none⟩ = some (.slice none 0 0) := (blk_cell hB 10).trans ((hcs 10 (by decide)).2 (by decide))
          have c256 : wr.cell? ⟨w.heap.size + 1, 256, none⟩ = some v := (blk_cell hB 256).trans hv
          have hnil := fun (W : World) => Lib.run_eql_slice_nil (P := Tryz.prog) W 50 5 none 0 0 0 0 Tryz.underlying50
          have hx : ∀ h : 0 < (⟨#[10]⟩ : ByteArray).size, ((⟨#[10]⟩ : ByteArray)[0]'h).toNat = 10 := fun _ => rfl
          have hcv := fun (W : World) => run_convert_bytes_arg (P := Tryz.prog) (W.alloc (.cells #[.int .u8 10] 5)) 50 5 Tryz.underlying50 Tryz.underlying5 W.heap.size 0 1 1 [10] rfl (fun i hi => by obtain rfl : i = 0 := (by simp at hi; omega); simp) 9 Tryz.underlying9
          have HB := Lib.hid hB
          have HC := Lib.hid hcs
          have HZ := Lib.hid hsz
          have HV := Lib.hid hv
          have HO := Lib.hid hown
          have HL := Lib.hid hbel
          clear hB hcs hsz hv hown hbel h0 h1 h2 h3 h4 h5 hr
          have hS := fun (W : World) => Lib.run_convert_string_bytes (P := Tryz.prog) W 9 50 5 ⟨#[]⟩ Tryz.underlying9 Tryz.underlying50 Tryz.underlying5
          go_wp2_with (at_builtin; go_loud (refine wpList_append_own _ rfl _ _ 73 rfl w.heap.size 9 i9 (.string ⟨#[]⟩) 1 16 Tryz.underlying73 hi hz0 hz1 hz2 rfl (by decide) v 1 [.string ⟨#[13]⟩] rfl ((HO.out.alloc _).alloc _) ⟨wr.heap.size + 1, 0, none⟩ 1 1 [.string ⟨#[10]⟩] rfl rfl ?c1 ?c2 (by decide) (by decide) ?c3 ?_))
          case c1 =>
            intro j u hj
            have hj0 : j = 0 := by
              have := (List.getElem?_eq_some_iff.1 hj).1
              simp at this
              omega
            subst hj0
            obtain rfl : Value.string ⟨#[10]⟩ = u := by simpa using hj
            rw [Addr.add_zero']
            have := blk_cell (heap_alloc_new (wr.alloc (Obj.cells #[Value.int IntKind.u8 10] 5)) (Obj.cells #[Value.string (strOfNums [10])] 9)) 0
            rw [World.size_alloc] at this
            exact this
          case c2 => decide
          case c3 => have := HL.out.size; simp; omega
          intro v' w1 hown' hgr hne
          obtain ⟨g', n', c', hv'⟩ : ∃ g n c, v' = .slice (some ⟨g, 0, none⟩) n c := by
            rcases hown'.2 with h | ⟨g, cap, cur, hv, _⟩
            · exact absurd h.1 (by simpa using hne)
            · exact ⟨g, _, cap, hv⟩
          have hm := stage_mid HB.out HO.out _ _ hgr
          have d256 : w1.cell? ⟨w.heap.size + 1, 256, none⟩ = some v := (blk_cell hm 256).trans HV.out
          have f256 : w1.frozen? ⟨w.heap.size + 1, 256, none⟩ = false := blk_frozen hm 256
          have dX : (Lib.bytesWorld (w1.setCell ⟨w.heap.size + 1, 256, none⟩ v') 5 ⟨#[]⟩).cell? ⟨w.heap.size + 1, 10, none⟩ = some (.slice none 0 0) := by
            rw [Lib.bytesWorld_old _ _ _ _ (blk_lt (blk_set hm 256 v')), blk_cell (blk_set hm 256 v') 10, Array.getElem?_setIfInBounds_ne (by decide)]
            exact (HC.out 10 (by decide)).2 (by decide)
          have fX : (Lib.bytesWorld (w1.setCell ⟨w.heap.size + 1, 256, none⟩ v') 5 ⟨#[]⟩).frozen? ⟨w.heap.size + 1, 10, none⟩ = false :=
            blk_frozen ((Lib.bytesWorld_at_old _ 5 _ _ (blk_lt (blk_set hm 256 v'))).trans (blk_set hm 256 v')) 10
          have HE := Lib.hid (fun (g c : Nat) => stage_end HB.out HZ.out HC.out HO.out HL.out (by omega) _ _ hgr hown' 10 (by decide) g c)
          clear hm cX c256 hgr hown' hne k1 k2
          rw [hv'] at dX fX HE ⊢
          clear hv'
          go_wp2
          go_roundw
          case rel => exact .inr (.inr (.inl ⟨rfl, HE.out _ _⟩))
          case measure => simp [intOf]
        · obtain ⟨cs, v, hB, hsz, hcs, hv, hown, hbel, hBl⟩ := hS
          have k1 := cell_later hbel h0
          have k2 := cell_later hbel h1
          have cX : wr.cell? ⟨w.heap.size + 1, 9, none⟩ = some (.slice none 0 0) := (blk_cell hB 9).trans ((hcs 9 (by decide)).2 (by decide))
          have c256 : wr.cell? ⟨w.heap.size + 1, 256, none⟩ = some v := (blk_cell hB 256).trans hv
          have hnil := fun (W : World) => Lib.run_eql_slice_nil (P := Tryz.prog) W 50 5 none 0 0 0 0 Tryz.underlying50
          have hx : ∀ h : 0 < (⟨#[9]⟩ : ByteArray).size, ((⟨#[9]⟩ : ByteArray)[0]'h).toNat = 9 := fun _ => rfl
          have hcv := fun (W : World) => run_convert_bytes_arg (P := Tryz.prog) (W.alloc (.cells #[.int .u8 9] 5)) 50 5 Tryz.underlying50 Tryz.underlying5 W.heap.size 0 1 1 [9] rfl (fun i hi => by obtain rfl : i = 0 := (by simp at hi; omega); simp) 9 Tryz.underlying9
          have HB := Lib.hid hB
          have HC := Lib.hid hcs
          have HZ := Lib.hid hsz
          have HV := Lib.hid hv
          have HO := Lib.hid hown
          have HL := Lib.hid hbel
          clear hB hcs hsz hv hown hbel h0 h1 h2 h3 h4 h5 hr
          have hS := fun (W : World) => Lib.run_convert_string_bytes (P := Tryz.prog) W 9 50 5 ⟨#[]⟩ Tryz.underlying9 Tryz.underlying50 Tryz.underlying5
          go_wp2_with (at_builtin; go_loud (refine wpList_append_own _ rfl _ _ 73 rfl w.heap.size 9 i9 (.string ⟨#[]⟩) 1 16 Tryz.underlying73 hi hz0 hz1 hz2 rfl (by decide) v 2 [.string ⟨#[13]⟩, .string ⟨#[10]⟩] rfl ((HO.out.alloc _).alloc _) ⟨wr.heap.size + 1, 0, none⟩ 1 1 [.string ⟨#[9]⟩] rfl rfl ?c1 ?c2 (by decide) (by decide) ?c3 ?_))
          case c1 =>
            intro j u hj
            have hj0 : j = 0 := by
              have := (List.getElem?_eq_some_iff.1 hj).1
              simp at this
              omega
            subst hj0
            obtain rfl : Value.string ⟨#[9]⟩ = u := by simpa using hj
            rw [Addr.add_zero']
            have := blk_cell (heap_alloc_new (wr.alloc (Obj.cells #[Value.int IntKind.u8 9] 5)) (Obj.cells #[Value.string (strOfNums [9])] 9)) 0
            rw [World.size_alloc] at this
            exact this
          case c2 => decide
          case c3 => have := HL.out.size; simp; omega
          intro v' w1 hown' hgr hne
          obtain ⟨g', n', c', hv'⟩ : ∃ g n c, v' = .slice (some ⟨g, 0, none⟩) n c := by
            rcases hown'.2 with h | ⟨g, cap, cur, hv, _⟩
            · exact absurd h.1 (by simpa using hne)
            · exact ⟨g, _, cap, hv⟩
          have hm := stage_mid HB.out HO.out _ _ hgr
          have d256 : w1.cell? ⟨w.heap.size + 1, 256, none⟩ = some v := (blk_cell hm 256).trans HV.out
          have f256 : w1.frozen? ⟨w.heap.size + 1, 256, none⟩ = false := blk_frozen hm 256
          have dX : (Lib.bytesWorld (w1.setCell ⟨w.heap.size + 1, 256, none⟩ v') 5 ⟨#[]⟩).cell? ⟨w.heap.size + 1, 9, none⟩ = some (.slice none 0 0) := by
            rw [Lib.bytesWorld_old _ _ _ _ (blk_lt (blk_set hm 256 v')), blk_cell (blk_set hm 256 v') 9, Array.getElem?_setIfInBounds_ne (by decide)]
            exact (HC.out 9 (by decide)).2 (by decide)
          have fX : (Lib.bytesWorld (w1.setCell ⟨w.heap.size + 1, 256, none⟩ v') 5 ⟨#[]⟩).frozen? ⟨w.heap.size + 1, 9, none⟩ = false :=
            blk_frozen ((Lib.bytesWorld_at_old _ 5 _ _ (blk_lt (blk_set hm 256 v'))).trans (blk_set hm 256 v')) 9
          have HE := Lib.hid (fun (g c : Nat) => stage_end HB.out HZ.out HC.out HO.out HL.out (by omega) _ _ hgr hown' 9 (by decide) g c)
          clear hm cX c256 hgr hown' hne k1 k2
          rw [hv'] at dX fX HE ⊢
          clear hv'
          go_wp2
          go_roundw
          case rel => exact .inr (.inr (.inr ⟨rfl, HE.out _ _⟩))
          case measure => simp [intOf]
        · have HS := Lib.hid hS
          clear hS
          go_wp2
          go_ret
          exact ⟨_, rfl, HS.out⟩
end Go.Proofs.YtchooidhieaphaaGreatDoor
set_option linter.unusedVariables false
set_option linter.unusedSimpArgs false
namespace Go.Proofs.YtchooidhieaphaaGreatDoor
open Go.RowKit Go.Proofs.YtchooidhieaphaaGreatDoorW.PrintWords
theorem disable (w : World) : (callFunc 159 #[]).run Tryz.prog w = .ok (.value (.tuple #[])) w := run_call_mark0 Tryz.func159 (by kernel_rfl) (by kernel_rfl) (by kernel_rfl) .disable (by kernel_rfl) w
theorem enable (w : World) : (callFunc 161 #[]).run Tryz.prog w = .ok (.value (.tuple #[])) w := run_call_mark0 Tryz.func161 (by kernel_rfl) (by kernel_rfl) (by kernel_rfl) .enable (by kernel_rfl) w
theorem acquire (a : Addr) (w : World) : (callFunc 162 #[.pointer (some a)]).run Tryz.prog w = .ok (.value (.tuple #[])) w := run_call_marked Tryz.func162 (by kernel_rfl) (by kernel_rfl) (by kernel_rfl) .acquire (by kernel_rfl) a w
theorem releaseMerge (a : Addr) (w : World) : (callFunc 164 #[.pointer (some a)]).run Tryz.prog w = .ok (.value (.tuple #[])) w := run_call_marked Tryz.func164 (by kernel_rfl) (by kernel_rfl) (by kernel_rfl) .releaseMerge (by kernel_rfl) a w
/-- '(*sync/atomic.Bool).Store(true)', entered as a deferred call. -/
theorem store_deferred (a : Addr) (x : Value) (u : FrameMode) (w : World) (hc : w.cell? a = some x) (hz : w.frozen? a = false) :
    CallsD Tryz.prog 133 #[.pointer (some a), .bool true] u w fun e u' w' => u' = u ∧ (e = .returned (.tuple #[]) ∧ w' = w.drew.setCell a (.int .u32 1)) := by
  have hc' : w.drew.cell? a = some x := by go_simp
  have hz' : w.drew.frozen? a = false := by go_simp
  have hst := run_call_store (P := Tryz.prog) Tryz.func152 (by kernel_rfl) (by kernel_rfl) (by kernel_rfl) (by kernel_rfl) (k := .u32) (y := 1) hc' hz'
  go_enter_d Tryz.func133, Tryz.ntmps133
  go_wp2
  go_region_calls
  all_goals (go_end0; exact ⟨rfl, rfl⟩)
set_option maxRecDepth 100000 in
set_option maxHeartbeats 1600000 in
/-- '(*sync.Mutex).Unlock', entered as a deferred call, the lock held and nobody waiting. -/
theorem unlock_deferred (a : Addr) (u : FrameMode) (w : World) (hc : w.cell? a = some (.int .i32 1)) (hz : w.frozen? a = false) :
    CallsD Tryz.prog 132 #[.pointer (some a)] u w fun e u' w' => u' = u ∧ (e = .returned (.tuple #[]) ∧ w' = w.setCell a (.int .i32 0)) := by
  have hd := disable
  have he := enable
  have hr := releaseMerge
  have hadd := run_call_add (P := Tryz.prog) Tryz.func165 (by kernel_rfl) (by kernel_rfl) (by kernel_rfl) .i32 (by kernel_rfl) (y := -1) (s := 0) hc hz (by simp [go_sem]; rfl)
  have hcv := run_convert_to_unsafe (P := Tryz.prog) (src := 185) (dst := 163) Tryz.underlying185 Tryz.underlying163 (by kernel_rfl) hc
  go_enter_d Tryz.func132, Tryz.ntmps132
  go_wp2
  go_end0
  go_wp2
  go_end0
  exact ⟨rfl, rfl⟩
set_option maxRecDepth 100000 in
set_option maxHeartbeats 1600000 in
/-- '(*sync.Mutex).Lock', the lock free. -/
theorem lock_free (a : Addr) (w : World) (hc : w.cell? a = some (.int .i32 0)) (hz : w.frozen? a = false) :
    Calls Tryz.prog 131 #[.pointer (some a)] w fun e w' => e = .returned (.tuple #[]) ∧ w' = w.setCell a (.int .i32 1) := by
  have hd := disable
  have he := enable
  have ha := acquire
  have hcas := run_call_cas_hit (P := Tryz.prog) Tryz.func160 (by kernel_rfl) (by kernel_rfl) (by kernel_rfl) .i32 (by kernel_rfl) (y := 1) hc hz
  have hc' : (w.setCell a (.int .i32 1)).cell? a = some (.int .i32 1) := World.cell?_setCell_same w a _ hc
  have hcv := run_convert_to_unsafe (P := Tryz.prog) (src := 185) (dst := 163) Tryz.underlying185 Tryz.underlying163 (by kernel_rfl) hc'
  go_enter Tryz.func131, Tryz.ntmps131
  go_wp2
  first | go_end0 | (simp only [Exit.inBlock, Exit.then]; refine bodyPost_ret (results_none rfl _ _ _) rfl ?_) | refine bodyPost_ret (results_none rfl _ _ _) rfl ?_
  go_wp2
  go_end0
  exact ⟨rfl, rfl⟩
/-- The replacements' table at block B, whole. -/
def Table (w : World) (lo B : Nat) : Prop :=
  ∃ cs v, w.heap[B]? = some (.cells cs 149 (0, 0)) ∧ cs.size = 257 ∧ (∀ i, i < 256 → (i ∈ [9, 10, 13] → ∃ g c, cs[i]? = some (.slice (some ⟨g, 0, none⟩) 0 c)) ∧ (i ∉ [9, 10, 13] → cs[i]? = some (.slice none 0 0))) ∧
    cs[256]? = some v ∧ w.ownsRow lo 9 1 v 3 [.string ⟨#[13]⟩, .string ⟨#[10]⟩, .string ⟨#[9]⟩] ∧ lo ≤ B
theorem Stage.table {w w1 : World} {B : Nat} (h : Stage w w1 B [9, 10, 13] [.string ⟨#[13]⟩, .string ⟨#[10]⟩, .string ⟨#[9]⟩]) : Table w1 w.heap.size B := by
  obtain ⟨cs, v, h1, h2, h3, h4, h5, h6, h7⟩ := h
  exact ⟨cs, v, h1, h2, h3, h4, h5, h7⟩
theorem Table.setCell {w : World} {lo B : Nat} (h : Table w lo B) {b : Nat} (hb : b < lo) (i : Nat) (u : Value) : Table (w.setCell ⟨b, i, none⟩ u) lo B := by
  obtain ⟨cs, v, h1, h2, h3, h4, h5, h7⟩ := h
  exact ⟨cs, v, blk_far h1 (by show B ≠ b; omega) u, h2, h3, h4, ownsRow_setCell_below h5 hb u, h7⟩
theorem Table.drew {w : World} {lo B : Nat} (h : Table w lo B) : Table w.drew lo B := h
set_option maxRecDepth 100000 in
set_option maxHeartbeats 400000 in
/-- '(*Replacer).buildOnce'. -/
theorem buildOnce_any (b o c : Nat) (d s u : Int) (w : World) (hb : w.heap[b]? = some (.cells #[.int .u32 d, .int .i32 s, .int .u32 u, .nilIface, .slice (some ⟨o, 0, none⟩) 6 c] 92 (0, 0)))
    (ho : ∀ j u, oldnew[j]? = some u → w.cell? ⟨o, j, none⟩ = some u) :
    Calls Tryz.prog 80 #[.pointer (some ⟨b, 0, none⟩)] w fun e w' => ∃ B w1, e = .returned (.tuple #[]) ∧ Stage w w1 B [9, 10, 13] [.string ⟨#[13]⟩, .string ⟨#[10]⟩, .string ⟨#[9]⟩] ∧ w' = (w1.setCell ⟨b, 3, none⟩ (.iface 150 (.pointer (some ⟨B, 0, none⟩)))).setCell ⟨b, 4, none⟩ (.slice none 0 0) := by
  have HC := Lib.hid (build_any b o c w ((blk_cell hb 4).trans rfl) (ho 0 _ rfl) (ho 1 _ rfl) (ho 2 _ rfl) (ho 3 _ rfl) (ho 4 _ rfl) (ho 5 _ rfl))
  have HB := Lib.hid hb
  clear hb ho
  go_enter Tryz.func80, Tryz.ntmps80
  go_wp2_with fail
  refine HC.out.mono ?_
  rintro e w1 ⟨B, rfl, hS⟩
  obtain ⟨cs, v, _, _, _, _, _, hbel, _⟩ := id hS
  have hb1 := blk_below HB.out hbel
  have c3 := (blk_cell hb1 3).trans rfl
  have f3 := blk_frozen hb1 3
  have c4 := (blk_cell hb1 4).trans rfl
  have f4 := blk_frozen hb1 4
  have HS := Lib.hid hS
  clear hS hb1 hbel
  go_wp2
  go_end0
  exact ⟨B, w1, rfl, HS.out, rfl⟩
/-- The Once is done; the Replacer at b leads to its table. -/
def OnceDone (w w' : World) (b : Nat) : Prop := ∃ (B : Nat) (u : Int), w'.heap[b]? = some (.cells #[.int .u32 1, .int .i32 0, .int .u32 u, .iface 150 (.pointer (some ⟨B, 0, none⟩)), .slice none 0 0] 92 (0, 0)) ∧ Table w' w.heap.size B ∧ w.grownBy w' (some b)
theorem grownBy_setCell {w w' : World} {b : Nat} (h : w.grownBy w' (some b)) (i : Nat) (u : Value) : w.grownBy (w'.setCell ⟨b, i, none⟩ u) (some b) :=
  ⟨h.os, h.tape, h.output, by have := h.size; simpa [World.setCell] using this, fun k hk hne => (Below.heap_setCell _ _ _ _ (by intro e; exact hne (by rw [e]))).trans (h.block k hk hne)⟩
theorem grownBy_drew {w w' : World} {b : Option Nat} (h : w.grownBy w' b) : w.grownBy w'.drew b := ⟨h.os, h.tape, h.output, h.size, h.block⟩
theorem once_world {w w1 : World} {b o c B : Nat} {u : Int} (hb : w.heap[b]? = some (.cells #[.int .u32 0, .int .i32 0, .int .u32 u, .nilIface, .slice (some ⟨o, 0, none⟩) 6 c] 92 (0, 0)))
    (hS : Stage (w.setCell ⟨b, 1, none⟩ (.int .i32 1)) w1 B [9, 10, 13] [.string ⟨#[13]⟩, .string ⟨#[10]⟩, .string ⟨#[9]⟩]) :
    OnceDone w (((((w1.setCell ⟨b, 3, none⟩ (.iface 150 (.pointer (some ⟨B, 0, none⟩)))).setCell ⟨b, 4, none⟩ (.slice none 0 0)).drew.setCell ⟨b, 0, none⟩ (.int .u32 1)).setCell ⟨b, 1, none⟩ (.int .i32 0))) b := by
  have hlt := blk_lt hb
  have hT := hS.table
  have e0 : (w.setCell ⟨b, 1, none⟩ (.int .i32 1)).heap.size = w.heap.size := by simp [World.setCell]
  rw [e0] at hT
  obtain ⟨cs, v, _, _, _, _, _, hbel, _⟩ := hS
  have h1 := blk_below (blk_set hb 1 (.int .i32 1)) hbel
  refine ⟨B, u, ?_, ?_, ?_⟩
  · exact blk_put (blk_drew (blk_set (blk_set h1 3 _) 4 _) |> fun h => blk_set h 0 (.int .u32 1)) 1 (.int .i32 0) (by simp [Array.setIfInBounds])
  · exact ((((hT.setCell hlt 3 _).setCell hlt 4 _).drew.setCell hlt 0 _).setCell hlt 1 _)
  · have g0 : w.grownBy w1 (some b) :=
      ⟨hbel.os, hbel.tape, hbel.output, by have := hbel.size; rw [e0] at this; exact this, fun k hk hne => (hbel.block k (by rw [e0]; exact hk)).trans (Below.heap_setCell _ _ _ _ (by intro e; exact hne (by rw [e])))⟩
    exact grownBy_setCell (grownBy_setCell (grownBy_drew (grownBy_setCell (grownBy_setCell g0 3 _) 4 _)) 0 _) 1 _
set_option maxRecDepth 100000 in
set_option maxHeartbeats 1600000 in
/-- '(*sync.Once).doSlow' with the Replacer's buildOnce. -/
theorem slow_any (b o c : Nat) (u : Int) (w : World) (hb : w.heap[b]? = some (.cells #[.int .u32 0, .int .i32 0, .int .u32 u, .nilIface, .slice (some ⟨o, 0, none⟩) 6 c] 92 (0, 0)))
    (ho : ∀ j u, oldnew[j]? = some u → w.cell? ⟨o, j, none⟩ = some u) (hne : o ≠ b) :
    Calls Tryz.prog 108 #[.pointer (some ⟨b, 0, none⟩), .func (.func 80) #[.pointer (some ⟨b, 0, none⟩)] #[]] w fun e w' => e = .returned (.tuple #[]) ∧ OnceDone w w' b := by
  have h1 := blk_set hb 1 (.int .i32 1)
  have hl := run_call_load (P := Tryz.prog) Tryz.func130 (by kernel_rfl) (by kernel_rfl) (by kernel_rfl) .u32 (by kernel_rfl) (w := w.setCell ⟨b, 1, none⟩ (.int .i32 1)) (a := ⟨b, 0, none⟩) (x := 0) ((blk_cell h1 0).trans rfl)
  have hnot : ∀ (x : Bool) (w : World), (Op.unary .not (.bool x)).run Tryz.prog w = .ok (.bool (!x)) w := fun _ _ => rfl
  have c1 : w.cell? ⟨b, 1, none⟩ = some (.int .i32 0) := (blk_cell hb 1).trans rfl
  have f1 : w.frozen? ⟨b, 1, none⟩ = false := blk_frozen hb 1
  have HC := Lib.hid (buildOnce_any b o c 0 1 u (w.setCell ⟨b, 1, none⟩ (.int .i32 1)) h1 (fun j u h => (World.cell?_setCell_other _ ⟨b, 1, none⟩ ⟨o, j, none⟩ _ (by intro e; exact hne (by injection e with e1; exact e1.symm))).trans (ho j u h)))
  have HB := Lib.hid hb
  clear hb ho h1
  go_enter_defers Tryz.func108, Tryz.ntmps108
  go_wp2_with (first | (go_at_call 131; refine (lock_free ⟨b, 1, none⟩ _ (by go_simp) (by go_simp)).mono ?_; rintro e w' ⟨rfl, rfl⟩) | (go_at_call 107; go_in))
  refine HC.out.mono ?_
  rintro e w' ⟨B, w1, rfl, hS, rfl⟩
  have HW := Lib.hid (once_world HB.out hS)
  obtain ⟨cs, v, _, _, _, _, _, hbel, _⟩ := hS
  have g1 := blk_below (blk_set HB.out 1 (.int .i32 1)) hbel
  have g2 := blk_drew (blk_set (blk_set g1 3 (.iface 150 (.pointer (some ⟨B, 0, none⟩)))) 4 (.slice none 0 0))
  have g3 := blk_set g2 0 (.int .u32 1)
  have G2 := Lib.hid g2
  have G3 := Lib.hid g3
  clear g1 g2 g3 hbel hl hnot
  go_wp2
  refine leaves_cons (f := 133) (args := #[.pointer (some ⟨b, 0, none⟩), .bool true]) (by simp) (by simp [go_sem]) ?_
  refine (store_deferred ⟨b, 0, none⟩ (.int .u32 0) .returning _ ?_ ?_).mono ?_
  · exact (blk_cell G2.out 0).trans rfl
  · exact blk_frozen G2.out 0
  rintro e u' w'' ⟨rfl, rfl, rfl⟩
  refine leaves_cons (f := 132) (args := #[.pointer (some ⟨b, 1, none⟩)]) (by simp [settle]) (by simp [go_sem]) ?_
  refine (unlock_deferred ⟨b, 1, none⟩ _ _ ?_ ?_).mono ?_
  · exact (blk_cell G3.out 1).trans rfl
  · exact blk_frozen G3.out 1
  rintro e u' w'' ⟨rfl, rfl, rfl⟩
  simp [Leaves, settle, results, Tryz.results108]
  exact HW.out
set_option maxRecDepth 100000 in
set_option maxHeartbeats 1600000 in
/-- '(*sync.Once).Do' with the Replacer's buildOnce, the first time. -/
theorem do_any (b o c : Nat) (u : Int) (w : World) (hb : w.heap[b]? = some (.cells #[.int .u32 0, .int .i32 0, .int .u32 u, .nilIface, .slice (some ⟨o, 0, none⟩) 6 c] 92 (0, 0)))
    (ho : ∀ j u, oldnew[j]? = some u → w.cell? ⟨o, j, none⟩ = some u) (hne : o ≠ b) :
    Calls Tryz.prog 79 #[.pointer (some ⟨b, 0, none⟩), .func (.func 80) #[.pointer (some ⟨b, 0, none⟩)] #[]] w fun e w' => e = .returned (.tuple #[]) ∧ OnceDone w w' b := by
  have hl := run_call_load (P := Tryz.prog) Tryz.func130 (by kernel_rfl) (by kernel_rfl) (by kernel_rfl) .u32 (by kernel_rfl) (w := w) (a := ⟨b, 0, none⟩) (x := 0) ((blk_cell hb 0).trans rfl)
  have hnot : ∀ (x : Bool) (w : World), (Op.unary .not (.bool x)).run Tryz.prog w = .ok (.bool (!x)) w := fun _ _ => rfl
  have HC := Lib.hid (slow_any b o c u w hb ho hne)
  clear hb ho
  go_enter Tryz.func79, Tryz.ntmps79
  go_wp2_with (first | (go_at_call 108; refine HC.out.mono ?_; rintro e w' ⟨rfl, hW⟩) | (go_at_call 107; go_in))
  go_end0
  exact ⟨rfl, hW⟩
end Go.Proofs.YtchooidhieaphaaGreatDoor
set_option linter.unusedVariables false
set_option linter.unusedSimpArgs false
namespace Go.Proofs.YtchooidhieaphaaGreatDoor
open Go.RowKit Go.Proofs.YtchooidhieaphaaGreatDoorW.PrintWords
/-- What link.Clean leaves in. -/
def keepB (c : UInt8) : Bool := !(c == 9 || c == 10 || c == 13)
def cutF (l : List UInt8) : List UInt8 := l.filter keepB
theorem cutF_count (l : List UInt8) : (cutF l).length + l.count 13 + l.count 10 + l.count 9 = l.length := by
  induction l with
  | nil => rfl
  | cons a l ih =>
    unfold cutF at *
    rw [List.filter_cons, List.count_cons, List.count_cons, List.count_cons]
    by_cases h1 : a = 9
    · subst h1; simp [keepB]; omega
    · by_cases h2 : a = 10
      · subst h2; simp [keepB]; omega
      · by_cases h3 : a = 13
        · subst h3; simp [keepB]; omega
        · have : keepB a = true := by simp [keepB, h1, h2, h3]
          simp [this, h1, h2, h3]; omega
/-- What a table's cells hold. -/
theorem Table.cells {w : World} {lo B : Nat} (h : Table w lo B) : (∃ T c, w.cell? ⟨B, 256, none⟩ = some (.slice (some ⟨T, 0, none⟩) 3 c) ∧ w.cell? ⟨T, 0, none⟩ = some (.string ⟨#[13]⟩) ∧ w.cell? ⟨T, 1, none⟩ = some (.string ⟨#[10]⟩) ∧ w.cell? ⟨T, 2, none⟩ = some (.string ⟨#[9]⟩)) ∧
    ∀ i, i < 256 → (i ∈ [9, 10, 13] → ∃ g c, w.cell? ⟨B, i, none⟩ = some (.slice (some ⟨g, 0, none⟩) 0 c)) ∧ (i ∉ [9, 10, 13] → w.cell? ⟨B, i, none⟩ = some (.slice none 0 0)) := by
  obtain ⟨cs, v, h1, h2, h3, h4, h5, h7⟩ := h
  refine ⟨?_, fun i hi => ⟨fun hm => ?_, fun hm => (blk_cell h1 i).trans ((h3 i hi).2 hm)⟩⟩
  · rcases h5.2 with h | ⟨g, cap, cur, hv, hg, hcur, hcap, _, hsz, htk⟩
    · exact absurd h.2 (by decide)
    · have hj : ∀ j, j < 3 → w.cell? ⟨g, j, none⟩ = ([.string ⟨#[13]⟩, .string ⟨#[10]⟩, .string ⟨#[9]⟩] : List Value)[j]? := fun j hj => by
        rw [blk_cell hcur j, ← htk, List.getElem?_take_of_lt (by omega)]
        simp
      exact ⟨g, cap, (blk_cell h1 256).trans (by rw [h4, hv]), hj 0 (by decide), hj 1 (by decide), hj 2 (by decide)⟩
  · obtain ⟨g, c, hg⟩ := (h3 i hi).1 hm
    exact ⟨g, c, (blk_cell h1 i).trans hg⟩
theorem take_snoc (s : ByteArray) (k : Nat) (h : k < s.size) : s.data.toList.take (k + 1) = s.data.toList.take k ++ [s[k]] := by
  rw [List.take_succ_eq_append_getElem (by simpa using h)]; rfl
theorem cutF_snoc (l : List UInt8) (x : UInt8) : (cutF (l ++ [x])).length = if keepB x = true then (cutF l).length + 1 else (cutF l).length := by
  unfold cutF
  rw [List.filter_append]
  by_cases h : keepB x = true <;> simp [h]
theorem toNat_inj {x y : UInt8} (h : x.toNat = y.toNat) : x = y := UInt8.toNat_inj.1 h
theorem keepB_not {x : UInt8} (h : keepB x = true) : x.toNat ∉ [9, 10, 13] := by
  intro hm
  simp only [List.mem_cons, List.not_mem_nil, or_false] at hm
  rcases hm with e | e | e
  · obtain rfl : x = 9 := toNat_inj e
    simp [keepB] at h
  · obtain rfl : x = 10 := toNat_inj e
    simp [keepB] at h
  · obtain rfl : x = 13 := toNat_inj e
    simp [keepB] at h
theorem keepB_mem {x : UInt8} (h : ¬ keepB x = true) : x.toNat ∈ [9, 10, 13] := by
  have h' : keepB x = false := by simpa using h
  unfold keepB at h'
  simp only [Bool.not_eq_false', Bool.or_eq_true, beq_iff_eq] at h'
  rcases h' with (rfl | rfl) | rfl <;> decide
/-- The bytes that have been laid, then zeros. -/
def rowF (l : List UInt8) (k r : Nat) : List Value := nums .u8 ((cutF (l.take k)).map fun c => (c.toNat : Int)) ++ List.replicate (r - (cutF (l.take k)).length) (.int .u8 0)
theorem made_zero (r : Nat) : (madeCells #[Value.int .u8 0] r).toList = List.replicate r (.int .u8 0) := by
  unfold madeCells
  apply List.ext_getElem
  · simp
  · intro i h1 h2
    simp [Nat.mod_one]
theorem rowF_zero (l : List UInt8) (r : Nat) (_ : (cutF l).length = r) : rowF l 0 r = List.replicate r (.int .u8 0) := by simp [rowF, cutF, nums]
theorem rowF_skip (l : List UInt8) (k r : Nat) (x : UInt8) (hs : l.take (k + 1) = l.take k ++ [x]) (hx : ¬ keepB x = true) : rowF l (k + 1) r = rowF l k r := by
  have : cutF (l.take (k + 1)) = cutF (l.take k) := by rw [hs]; unfold cutF; rw [List.filter_append]; simp [hx]
  unfold rowF
  rw [this]
theorem rowF_keep (l : List UInt8) (k r : Nat) (x : UInt8) (hs : l.take (k + 1) = l.take k ++ [x]) (hx : keepB x = true) (q : Nat) (hq : (cutF (l.take k)).length = q) (hqr : q + 1 ≤ r) :
    (rowF l k r).set q (.int .u8 (x.toNat : Int)) = rowF l (k + 1) r := by
  have h1 : cutF (l.take (k + 1)) = cutF (l.take k) ++ [x] := by rw [hs]; unfold cutF; rw [List.filter_append]; simp [hx]
  have h2 : (nums .u8 ((cutF (l.take k)).map fun c => (c.toNat : Int))).length = q := by simp [nums, hq]
  unfold rowF
  rw [h1, hq, List.set_append_right _ _ (by omega), h2, Nat.sub_self]
  obtain ⟨d, hd⟩ : ∃ d, r - q = d + 1 := ⟨r - q - 1, by omega⟩
  have hd2 : r - (cutF (l.take k) ++ [x]).length = d := by rw [List.length_append, hq]; simp; omega
  rw [hd, hd2, List.replicate_succ]
  simp [nums]
theorem rowF_at (l : List UInt8) (k r q : Nat) (hq : (cutF (l.take k)).length = q) (hqr : q + 1 ≤ r) : (rowF l k r)[q]? = some (.int .u8 0) := by
  unfold rowF
  rw [List.getElem?_append_right (by simp [nums, hq]), hq]
  simp only [nums, List.length_map, hq, Nat.sub_self]
  rw [List.getElem?_replicate, if_pos (by omega)]
theorem rowF_end (s : ByteArray) {w w' : World} {r g : Nat} (h : w'.ownsRow w.heap.size 5 1 (.slice (some ⟨g, 0, none⟩) r r) r (rowF s.data.toList s.size r)) (hr : (cutF s.data.toList).length = r) :
    w'.ownsRow w.heap.size 5 1 (.slice (some ⟨g, 0, none⟩) r r) r (nums .u8 ((cutF s.data.toList).map fun c => (c.toNat : Int))) := by
  unfold rowF at h
  rw [List.take_of_length_le (by rw [← Lib.size_eq]; exact Nat.le_refl _), hr, Nat.sub_self] at h
  simpa using h
theorem strOfNums_bytes (l : List UInt8) : strOfNums (l.map fun c => (c.toNat : Int)) = ⟨l.toArray⟩ := by
  unfold strOfNums
  rw [List.map_map]
  congr 2
  apply List.ext_getElem
  · simp
  · intro i h1 h2
    simp
theorem info5 : (Tryz.prog.info? 5).map (fun i => (i.zero, i.size, i.bytes)) = some (some (.int .u8 0), 1, 1) := by kernel_rfl
set_option maxRecDepth 100000 in
set_option maxHeartbeats 1600000 in
theorem replace_any (lo B : Nat) (s : ByteArray) (w : World) (hT : Table w lo B) (hs : s.size < 4294967281) :
    Calls Tryz.prog 202 #[.pointer (some ⟨B, 0, none⟩), .string s] w fun e w' => e = .returned (.string ⟨(cutF s.data.toList).toArray⟩) ∧ Below w.heap.size w w' := by
  have HT := Lib.hid hT
  obtain ⟨⟨T, c, hc, t0, t1, t2⟩, hi⟩ := hT.cells
  have HI := Lib.hid hi
  clear hi hT
  have e := cutF_count s.data.toList
  have hsz := Lib.size_eq s
  obtain ⟨a13, h13⟩ : ∃ n, s.data.toList.count 13 = n := ⟨_, rfl⟩
  obtain ⟨a10, h10⟩ : ∃ n, s.data.toList.count 10 = n := ⟨_, rfl⟩
  obtain ⟨a9, h9⟩ : ∃ n, s.data.toList.count 9 = n := ⟨_, rfl⟩
  obtain ⟨r, hr⟩ : ∃ n, (cutF s.data.toList).length = n := ⟨_, rfl⟩
  rw [h13, h10, h9, hr, ← hsz] at e
  have hc13 := Lib.hid (fun W : World => (Tryz.strings_Count_one s 13 W).mono fun _ _ h => (⟨h.1.trans (by rw [show Lib.countByte s.data.toList 13 = a13 from h13]), h.2.symm⟩ : _ = Ending.returned (.int .i64 (a13 : Int)) ∧ W = _))
  have hc10 := Lib.hid (fun W : World => (Tryz.strings_Count_one s 10 W).mono fun _ _ h => (⟨h.1.trans (by rw [show Lib.countByte s.data.toList 10 = a10 from h10]), h.2.symm⟩ : _ = Ending.returned (.int .i64 (a10 : Int)) ∧ W = _))
  have hc9 := Lib.hid (fun W : World => (Tryz.strings_Count_one s 9 W).mono fun _ _ h => (⟨h.1.trans (by rw [show Lib.countByte s.data.toList 9 = a9 from h9]), h.2.symm⟩ : _ = Ending.returned (.int .i64 (a9 : Int)) ∧ W = _))
  have HR := Lib.hid hr
  clear h13 h10 h9 hr hsz
  have HE := Lib.hid e
  have e1 : a13 ≤ s.size := by omega
  have e2 : a10 ≤ s.size := by omega
  have e3 : a9 ≤ s.size := by omega
  have e4 : a13 + a10 + a9 ≤ s.size := by omega
  clear e
  go_enter Tryz.func202, Tryz.ntmps202
  go_upto_if 26 with (fail)
  go_cut [5, 6] (fun n a wc => n = .int .i64 (r : Int) ∧ a = .bool (decide (r < s.size)) ∧ Below w.heap.size w wc)
  case first =>
    by_cases hlen : 24 ≤ s.size
    · have hd : decide (24 ≤ (s.size : Int)) = true := by simp; omega
      rw [hd]
      go_wp2
      go_loopw [5, 6, 32] (fun n a i wr => Below w.heap.size w wr ∧ ((i = .int .i64 0 ∧ n = .int .i64 (s.size : Int) ∧ a = .bool false) ∨ (i = .int .i64 1 ∧ n = .int .i64 ((s.size : Int) - a13) ∧ a = .bool (decide (0 < a13))) ∨
        (i = .int .i64 2 ∧ n = .int .i64 ((s.size : Int) - a13 - a10) ∧ a = .bool (decide (0 < a13 + a10))) ∨ (i = .int .i64 3 ∧ n = .int .i64 ((s.size : Int) - a13 - a10 - a9) ∧ a = .bool (decide (0 < a13 + a10 + a9))))) (fun _ _ i _ => 4 - (intOf i).toNat)
      case atStart => exact ⟨Below.refl _ _, .inl ⟨rfl, rfl, rfl⟩⟩
      case round =>
        obtain ⟨hb, ⟨rfl, rfl, rfl⟩ | ⟨rfl, rfl, rfl⟩ | ⟨rfl, rfl, rfl⟩ | ⟨rfl, rfl, rfl⟩⟩ := hrel
        · obtain ⟨g, cg, hg⟩ := (HI.out 13 (by decide)).1 (by decide)
          have k0 := cell_later hb t0
          have k1 := cell_later hb hg
          have hx : ∀ h : 0 < (⟨#[13]⟩ : ByteArray).size, ((⟨#[13]⟩ : ByteArray)[0]'h).toNat = 13 := fun _ => rfl
          have HB := Lib.hid hb
          clear hb t0 t1 t2 hg hc
          by_cases hz : a13 = 0
          · subst hz
            go_wp2_with (go_at_call 204; refine (hc13.out _).mono ?_; rintro e w' ⟨rfl, rfl⟩)
            go_roundw
            case rel => exact ⟨HB.out, .inr (.inl ⟨rfl, by go_num, rfl⟩)⟩
            case measure => simp [intOf]
          · have hz1 : ((a13 : Int) != 0) = true := by simp; omega
            have hz2 : decide (0 < a13) = true := by simp; omega
            go_wp2_with (go_at_call 204; refine (hc13.out _).mono ?_; rintro e w' ⟨rfl, rfl⟩)
            go_quiet (fail)
            go_wp2
            go_roundw
            case rel => exact ⟨below_drewN' HB.out _, .inr (.inl ⟨rfl, by go_num, by rw [hz2]⟩)⟩
            case measure => simp [intOf]
        · obtain ⟨g, cg, hg⟩ := (HI.out 10 (by decide)).1 (by decide)
          have k0 := cell_later hb t1
          have k1 := cell_later hb hg
          have hx : ∀ h : 0 < (⟨#[10]⟩ : ByteArray).size, ((⟨#[10]⟩ : ByteArray)[0]'h).toNat = 10 := fun _ => rfl
          have HB := Lib.hid hb
          clear hb t0 t1 t2 hg hc
          by_cases hz : a10 = 0
          · subst hz
            go_wp2_with (go_at_call 204; refine (hc10.out _).mono ?_; rintro e w' ⟨rfl, rfl⟩)
            go_roundw
            case rel => exact ⟨HB.out, .inr (.inr (.inl ⟨rfl, by go_num, rfl⟩))⟩
            case measure => simp [intOf]
          · have hz1 : ((a10 : Int) != 0) = true := by simp; omega
            have hz2 : decide (0 < a13 + a10) = true := by simp; omega
            go_wp2_with (go_at_call 204; refine (hc10.out _).mono ?_; rintro e w' ⟨rfl, rfl⟩)
            go_quiet (fail)
            go_wp2
            go_roundw
            case rel => exact ⟨below_drewN' HB.out _, .inr (.inr (.inl ⟨rfl, by go_num, by rw [hz2]⟩))⟩
            case measure => simp [intOf]
        · obtain ⟨g, cg, hg⟩ := (HI.out 9 (by decide)).1 (by decide)
          have k0 := cell_later hb t2
          have k1 := cell_later hb hg
          have hx : ∀ h : 0 < (⟨#[9]⟩ : ByteArray).size, ((⟨#[9]⟩ : ByteArray)[0]'h).toNat = 9 := fun _ => rfl
          have HB := Lib.hid hb
          clear hb t0 t1 t2 hg hc
          by_cases hz : a9 = 0
          · subst hz
            go_wp2_with (go_at_call 204; refine (hc9.out _).mono ?_; rintro e w' ⟨rfl, rfl⟩)
            go_roundw
            case rel => exact ⟨HB.out, .inr (.inr (.inr ⟨rfl, by go_num, rfl⟩))⟩
            case measure => simp [intOf]
          · have hz1 : ((a9 : Int) != 0) = true := by simp; omega
            have hz2 : decide (0 < a13 + a10 + a9) = true := by simp; omega
            go_wp2_with (go_at_call 204; refine (hc9.out _).mono ?_; rintro e w' ⟨rfl, rfl⟩)
            go_quiet (fail)
            go_wp2
            go_roundw
            case rel => exact ⟨below_drewN' HB.out _, .inr (.inr (.inr ⟨rfl, by go_num, by rw [hz2]⟩))⟩
            case measure => simp [intOf]
        · have HB := Lib.hid hb
          clear hb t0 t1 t2 hc
          have hq : decide (0 < a13 + a10 + a9) = decide (r < s.size) := by
            have := HE.out
            rw [decide_eq_decide]
            omega
          have hq2 : (s.size : Int) - a13 - a10 - a9 = r := by have := HE.out; omega
          have HQ := Lib.hid hq
          have HQ2 := Lib.hid hq2
          clear hq hq2
          go_wp2
          go_meet
          case rel => exact ⟨by rw [HQ2.out], by rw [HQ.out], HB.out⟩
    · have hd : decide (24 ≤ (s.size : Int)) = false := by simp; omega
      rw [hd]
      clear hc t0 t1 t2 e1 e2 e3 e4
      have HD1 := Lib.hid hlen
      clear hlen
      go_wp2
      go_loopw [5, 6, 10] (fun n a i wr => Below w.heap.size w wr ∧ ∃ k : Nat, k ≤ s.size ∧ i = .int .i64 (k : Int) ∧ n = .int .i64 ((s.size : Int) - k + ((cutF (s.data.toList.take k)).length : Int)) ∧ a = .bool (decide ((cutF (s.data.toList.take k)).length < k))) (fun _ _ i _ => s.size - (intOf i).toNat)
      case atStart => exact ⟨Below.refl _ _, 0, Nat.zero_le _, rfl, by simp [cutF], by simp [cutF]⟩
      case round =>
        obtain ⟨hb, k, hk, rfl, rfl, rfl⟩ := hrel
        have HB := Lib.hid hb
        clear hb
        have hcl : (cutF (s.data.toList.take k)).length ≤ k := Nat.le_trans (List.length_filter_le _ _) (List.length_take_le _ _)
        obtain ⟨q, hq⟩ : ∃ q, (cutF (s.data.toList.take k)).length = q := ⟨_, rfl⟩
        rw [hq] at hcl ⊢
        have HQ := Lib.hid hq
        clear hq
        by_cases hlt : k < s.size
        · obtain ⟨x, hx⟩ : ∃ x : UInt8, s[k]'hlt = x := ⟨_, rfl⟩
          have hx256 : x.toNat < 256 := x.toNat_lt
          have hsn := take_snoc s k hlt
          rw [hx] at hsn
          by_cases hkp : keepB x = true
          · have hnil := cell_later HB.out ((HI.out x.toNat hx256).2 (keepB_not hkp))
            have HS := Lib.hid (show (cutF (s.data.toList.take (k + 1))).length = q + 1 by rw [hsn, cutF_snoc, if_pos hkp, HQ.out])
            clear hsn hkp
            go_wp2
            go_roundw
            case rel => exact ⟨HB.out, k + 1, by omega, by go_num, by rw [HS.out]; go_num, by rw [HS.out]; simp⟩
            case measure => simp [intOf]; omega
          · obtain ⟨g, cg, hg⟩ := (HI.out x.toNat hx256).1 (keepB_mem hkp)
            have hnil := cell_later HB.out hg
            have HS := Lib.hid (show (cutF (s.data.toList.take (k + 1))).length = q by rw [hsn, cutF_snoc, if_neg hkp, HQ.out])
            clear hsn hkp hg
            go_wp2
            go_roundw
            case rel => exact ⟨HB.out, k + 1, by omega, by go_num, by rw [HS.out]; go_num, by rw [HS.out]; simp; omega⟩
            case measure => simp [intOf]; omega
        · obtain rfl : k = s.size := by omega
          have hq3 : q = r := by
            have := HQ.out
            rw [List.take_of_length_le (by rw [← Lib.size_eq]; exact Nat.le_refl _), HR.out] at this
            exact this.symm
          subst hq3
          have hn : (s.size : Int) - (s.size : Int) + (q : Int) = (q : Int) := by omega
          have HN := Lib.hid hn
          clear hn
          go_wp2
          go_meet
          case rel => exact ⟨by go_num, rfl, HB.out⟩
  case rest =>
    obtain ⟨rfl, rfl, hb⟩ := hcut
    have HB := Lib.hid hb
    clear hb hc t0 t1 t2 e1 e2 e3 e4 hc13 hc10 hc9
    by_cases hlt : r < s.size
    · have hd : decide (r < s.size) = true := decide_eq_true hlt
      rw [hd]
      have HL := Lib.hid hlt
      clear hlt
      obtain ⟨i5, hi0, hz0, hz1, hz2⟩ := info_parts info5
      have hr1 : r < 4294967281 := by have := HL.out; omega
      go_wp2_with (at_make; go_loud (refine wpList_make_full _ rfl _ _ 50 rfl w.heap.size 5 i5 (.int .u8 0) 1 Tryz.underlying50 hi0 hz0 hz1 .i64 .i64 _ _ r rfl rfl rfl rfl ?c1 ?c2 HB.out.size ?_))
      case c1 => rw [hz2]; omega
      case c2 => unfold maxLen; omega
      intro w1 hown hgr
      have hb1 : Below w.heap.size w w1 := HB.out.grown hgr HB.out.size (by intro k hk; cases hk)
      rw [made_zero, ← rowF_zero s.data.toList r HR.out] at hown
      have HO1 := Lib.hid hown
      have HB1 := Lib.hid hb1
      clear hown hb1 hgr
      go_wp2
      go_loopw [13, 14] (fun j i wr => Below w.heap.size w wr ∧ ∃ k : Nat, k ≤ s.size ∧ i = .int .i64 (k : Int) ∧ j = .int .i64 ((cutF (s.data.toList.take k)).length : Int) ∧ Hid (wr.ownsRow w.heap.size 5 1 (.slice (some ⟨wc.heap.size, 0, none⟩) r r) r (rowF s.data.toList k r))) (fun _ i _ => s.size - (intOf i).toNat)
      case atStart => exact ⟨HB1.out, 0, Nat.zero_le _, rfl, by simp [cutF], HO1⟩
      case round =>
        obtain ⟨hb, k, hk, rfl, rfl, hO⟩ := hrel
        have HB2 := Lib.hid hb
        clear hb
        have hqr : (cutF (s.data.toList.take k)).length ≤ r := by rw [← HR.out]; exact ((List.take_sublist k _).filter _).length_le
        obtain ⟨q, hq⟩ : ∃ q, (cutF (s.data.toList.take k)).length = q := ⟨_, rfl⟩
        rw [hq] at hqr ⊢
        have HQ := Lib.hid hq
        clear hq
        by_cases hlt : k < s.size
        · obtain ⟨x, hx⟩ : ∃ x : UInt8, s[k]'hlt = x := ⟨_, rfl⟩
          have hx256 : x.toNat < 256 := x.toNat_lt
          have hsn := take_snoc s k hlt
          rw [hx] at hsn
          by_cases hkp : keepB x = true
          · have hnil := cell_later HB2.out ((HI.out x.toNat hx256).2 (keepB_not hkp))
            have hq1 : (cutF (s.data.toList.take (k + 1))).length = q + 1 := by rw [hsn, cutF_snoc, if_pos hkp, HQ.out]
            have hqr1 : q + 1 ≤ r := by rw [← hq1, ← HR.out]; exact ((List.take_sublist (k + 1) _).filter _).length_le
            have hrow := rowF_keep s.data.toList k r x hsn hkp q HQ.out hqr1
            have hcell : wr.cell? ⟨wc.heap.size, q, none⟩ = some (.int .u8 0) := (hO.out.cellAt q (by omega)).trans (rowF_at _ _ _ _ HQ.out hqr1)
            have hfr : wr.frozen? ⟨wc.heap.size, q, none⟩ = false := hO.out.frozenAt q
            have hst := (hO.out.stored q (.int .u8 (x.toNat : Int))).1
            rw [hrow] at hst
            have HS := Lib.hid hst
            have HN := Lib.hid hq1
            clear hsn hkp hrow hst hq1
            go_wp2
            go_roundw
            case rel => exact ⟨HB2.out.setCell (p := ⟨wc.heap.size, q, none⟩) HB.out.size _, k + 1, by omega, by go_num, by rw [HN.out]; go_num, HS⟩
            case measure => simp [intOf]; omega
          · obtain ⟨g, cg, hg⟩ := (HI.out x.toNat hx256).1 (keepB_mem hkp)
            have hnil := cell_later HB2.out hg
            have hq1 : (cutF (s.data.toList.take (k + 1))).length = q := by rw [hsn, cutF_snoc, if_neg hkp, HQ.out]
            have hrow := rowF_skip s.data.toList k r x hsn hkp
            have hO1 := hO.out
            rw [← hrow] at hO1
            have HO2 := Lib.hid hO1
            have HN := Lib.hid hq1
            clear hsn hkp hg hrow hO1 hO hq1
            have hqr2 : (q : Int) ≤ r := by omega
            have hcp := fun (W : World) (d : Option Addr) (n c ty : Nat) => run_copy_none (P := Tryz.prog) W 50 50 ty 5 d (some ⟨g, 0, none⟩) n c 0 cg Tryz.underlying50 (by kernel_rfl) (Nat.zero_min _)
            go_wp2
            go_region
            all_goals
              go_wp2
              go_roundw
              case rel => exact ⟨HB2.out.drew, k + 1, by omega, by go_num, by rw [HN.out], HO2⟩
              case measure => simp [intOf]; omega
        · obtain rfl : k = s.size := by omega
          have hq3 : q = r := by
            have := HQ.out
            rw [List.take_of_length_le (by rw [← Lib.size_eq]; exact Nat.le_refl _), HR.out] at this
            exact this.symm
          subst hq3
          have hcv := own_string (P := Tryz.prog) Tryz.underlying50 Tryz.underlying5 Tryz.underlying9 (rowF_end s hO.out HR.out)
          go_wp2
          go_ret
          exact ⟨by first | (rw [strOfNums_bytes]; done) | rfl | (rw [strOfNums_bytes]; rfl), HB2.out⟩
    · have hd : decide (r < s.size) = false := decide_eq_false hlt
      rw [hd]
      have hfin : cutF s.data.toList = s.data.toList := by
        have h1 := HR.out
        have h2 := HE.out
        have h3 := Lib.size_eq s
        exact List.filter_eq_self.2 (List.length_filter_eq_length_iff.1 (by show (cutF s.data.toList).length = _; omega))
      have HF := Lib.hid hfin
      clear hfin hlt
      go_wp2
      go_ret
      exact ⟨by rw [HF.out]; simp, HB.out⟩
end Go.Proofs.YtchooidhieaphaaGreatDoor
set_option linter.unusedVariables false
set_option linter.unusedSimpArgs false
namespace Go.Proofs.YtchooidhieaphaaGreatDoor
open Go.Shelf
open Go.RowKit Go.Proofs.YtchooidhieaphaaGreatDoorW.PrintWords
theorem meth_replace (a : Addr) (w : World) : (method 327 150 (.pointer (some a)) "Replace").run Tryz.prog w = .ok (202, .pointer (some a)) w := by kernel_rfl
set_option maxRecDepth 100000 in
set_option maxHeartbeats 800000 in
theorem repl_any (b o c : Nat) (u : Int) (s : ByteArray) (w : World) (hb : w.heap[b]? = some (.cells #[.int .u32 0, .int .i32 0, .int .u32 u, .nilIface, .slice (some ⟨o, 0, none⟩) 6 c] 92 (0, 0)))
    (ho : ∀ j u, oldnew[j]? = some u → w.cell? ⟨o, j, none⟩ = some u) (hne : o ≠ b) (hs : s.size < 4294967281) :
    Calls Tryz.prog 55 #[.pointer (some ⟨b, 0, none⟩), .string s] w fun e w' => e = .returned (.string ⟨(cutF s.data.toList).toArray⟩) ∧ w.grownBy w' (some b) := by
  have hmf : ∀ (fn : Fn) (first cap : Array Value) (w : World), (Instr.makeFunc fn first cap).run Tryz.prog w = .ok (.func fn first cap) w := fun _ _ _ _ => rfl
  have HC := Lib.hid (do_any b o c u w hb ho hne)
  clear hb ho
  go_enter Tryz.func55, Tryz.ntmps55
  go_wp2_with fail
  refine HC.out.mono ?_
  rintro e w1 ⟨rfl, B, u1, hB1, hT, hg⟩
  have c3 : w1.cell? ⟨b, 3, none⟩ = some (.iface 150 (.pointer (some ⟨B, 0, none⟩))) := (blk_cell hB1 3).trans rfl
  have HG := Lib.hid hg
  have HT := Lib.hid hT
  clear hg hT hB1
  have hm := meth_replace
  go_wp2_with fail
  refine (replace_any w.heap.size B s w1 HT.out hs).mono ?_
  rintro e w2 ⟨rfl, hb2⟩
  have HB2 := Lib.hid hb2
  clear hb2 hm
  go_wp2_with fail
  go_ret
  exact ⟨rfl, ⟨HB2.out.os.trans HG.out.os, HB2.out.tape.trans HG.out.tape, HB2.out.output.trans HG.out.output, Nat.le_trans HG.out.size HB2.out.size, fun k hk hn => (HB2.out.block k (Nat.lt_of_lt_of_le hk HG.out.size)).trans (HG.out.block k hk hn)⟩⟩
/-- The bytes that browsers leave out at the ends. -/
def blanks : List UInt8 := [0, 1, 2, 3, 4, 5, 6, 7, 8, 9, 10, 11, 12, 13, 14, 15, 16, 17, 18, 19, 20, 21, 22, 23, 24, 25, 26, 27, 28, 29, 30, 31, 32]
/-- What link.Clean tells. -/
def cleanF (l : List UInt8) : List UInt8 := cutF (Lib.trimS l blanks)
theorem trim_any (s : ByteArray) (w : World) (hs : s.size < 4294967281) :
    Calls Tryz.prog 56 #[.string s, .string ⟨blanks.toArray⟩] w fun e w' => e = .returned (.string ⟨(Lib.trimS s.data.toList blanks).toArray⟩) ∧ Below w.heap.size w w' :=
  Any.strings_Trim_laid Tryz.lays160 (by kernel_rfl) s ⟨blanks.toArray⟩ w (by omega) (by decide) (ascii_of_all (by decide))
theorem cutF_le (l : List UInt8) : (cutF l).length ≤ l.length := List.length_filter_le _ _
theorem dropWhile_le {p : UInt8 → Bool} (l : List UInt8) : (l.dropWhile p).length ≤ l.length := (List.dropWhile_suffix p).length_le
theorem trimS_le (l : List UInt8) (cs : List UInt8) : (Lib.trimS l cs).length ≤ l.length := by
  unfold Lib.trimS Lib.trimRightS Lib.trimLeftS
  refine Nat.le_trans (dropWhile_le _) ?_
  rw [List.length_reverse]
  refine Nat.le_trans (dropWhile_le _) ?_
  rw [List.length_reverse]
  exact Nat.le_refl _
theorem cleanF_le (l : List UInt8) : (cleanF l).length ≤ l.length := Nat.le_trans (cutF_le _) (trimS_le _ _)
theorem size_mk (l : List UInt8) : (⟨l.toArray⟩ : ByteArray).size = l.length := by simp [ByteArray.size]
set_option maxRecDepth 100000 in
set_option maxHeartbeats 800000 in
/-- link.Clean. -/
theorem clean_any (s : ByteArray) (w : World) (hs : s.size < 4294967281) :
    Calls Tryz.prog 37 #[.string s] w fun e w' => e = .returned (.string ⟨(cleanF s.data.toList).toArray⟩) ∧ Below w.heap.size w w' := by
  have ht : (⟨(Lib.trimS s.data.toList blanks).toArray⟩ : ByteArray).size < 4294967281 := by
    rw [size_mk]
    have := trimS_le s.data.toList blanks
    rw [← Lib.size_eq] at this
    omega
  have hsrc : ∀ j u, oldnew[j]? = some u → (w.alloc (Obj.cells #[Value.string { data := #[9] }, Value.string { data := #[] }, Value.string { data := #[10] }, Value.string { data := #[] }, Value.string { data := #[13] }, Value.string { data := #[] }] 9)).cell? ⟨w.heap.size, j, none⟩ = some u :=
    fun j u h => (blk_cell (blk_new w _) j).trans (by rw [← h]; simp [oldnew])
  go_enter Tryz.func37, Tryz.ntmps37
  go_wp2_with fail
  refine (newReplacer_any w.heap.size 6 _ hsrc).mono ?_
  rintro e w1 ⟨b, o, c, rfl, ⟨u, hb⟩, hne, hbl, hol, hcells, hbel⟩
  have HB := Lib.hid hb
  have HC := Lib.hid hcells
  have HL := Lib.hid hbel
  clear hsrc hcells hb hbel
  go_wp2_with fail
  refine (trim_any s w1 hs).mono ?_
  rintro e w2 ⟨rfl, hb2⟩
  have HB2 := Lib.hid hb2
  clear hb2
  go_wp2_with fail
  refine (repl_any b o c u _ w2 (blk_below HB.out HB2.out) (fun j u h => cell_later HB2.out (HC.out j u h)) hne ht).mono ?_
  rintro e w3 ⟨rfl, hg⟩
  have HG := Lib.hid hg
  clear hg
  go_wp2_with fail
  go_ret
  refine ⟨by simp [cleanF], ?_⟩
  have h1 : Below w.heap.size w w1 := ((Below.refl _ w).alloc (Nat.le_refl _) _).trans (HL.out.mono (by simp))
  have h2 := below_then' h1 HB2.out
  exact h2.grown HG.out h2.size (fun k hk => by
    obtain rfl : b = k := by injection hk
    simp at hbl
    omega)
end Go.Proofs.YtchooidhieaphaaGreatDoor
set_option linter.unusedVariables false
set_option linter.unusedSimpArgs false
namespace Go.Proofs.YtchooidhieaphaaGreatDoor
open Go.RowKit Go.Proofs.YtchooidhieaphaaGreatDoorW.PrintWords
/-- Block G begins with these bytes, which may be written. -/
def BytesAt (w : World) (G : Nat) (l : List UInt8) : Prop :=
  ∃ cs fz, w.heap[G]? = some (.cells cs 5 fz) ∧ l.length ≤ fz.1 ∧ ∀ (i : Nat) (x : UInt8), l[i]? = some x → cs[i]? = some (Value.int .u8 (x.toNat : Int))
theorem bytesAt_new (w : World) (s : ByteArray) : BytesAt (Lib.bytesWorld w 5 s) w.heap.size s.data.toList := by
  refine ⟨_, _, Lib.bytesWorld_at_new w 5 s, ?_, fun i x hx => ?_⟩
  · simp [Lib.bytesCells]
  · have hi : i < s.size := by
      have := (List.getElem?_eq_some_iff.1 hx).1
      rw [Lib.size_eq]; exact this
    have h := Lib.bytesWorld_cell w 5 s i hi
    rw [cell_of_row _ _ i _ 5 _ (Lib.bytesWorld_at_new w 5 s)] at h
    rw [h, List.getD_eq_getElem?_getD, hx]
    rfl
theorem BytesAt.cell {w : World} {G : Nat} {l : List UInt8} (h : BytesAt w G l) {i : Nat} {x : UInt8} (hx : l[i]? = some x) : w.cell? ⟨G, i, none⟩ = some (.int .u8 (x.toNat : Int)) := by
  obtain ⟨cs, fz, h1, h2, h3⟩ := h
  rw [cell_of_row _ _ i _ 5 _ h1]
  exact h3 i x hx
theorem BytesAt.free {w : World} {G : Nat} {l : List UInt8} (h : BytesAt w G l) {i : Nat} (hi : i < l.length) : w.frozen? ⟨G, i, none⟩ = false := by
  obtain ⟨cs, fz, h1, h2, h3⟩ := h
  simp only [World.frozen?, h1]
  simp
  omega
theorem BytesAt.set {w : World} {G : Nat} {l : List UInt8} (h : BytesAt w G l) (k : Nat) (x : UInt8) : BytesAt (w.setCell ⟨G, k, none⟩ (.int .u8 (x.toNat : Int))) G (l.set k x) := by
  obtain ⟨cs, fz, h1, h2, h3⟩ := h
  refine ⟨cs.setIfInBounds k (.int .u8 (x.toNat : Int)), fz, by simp [World.setCell, Array.getElem?_modify, h1], by simpa using h2, fun i y hy => ?_⟩
  by_cases e : k = i
  · subst e
    have hk : k < l.length := by
      have := (List.getElem?_eq_some_iff.1 hy).1
      simpa using this
    have hy' : x = y := by
      rw [List.getElem?_set_self hk] at hy
      exact Option.some.inj hy
    have hc : k < cs.size := by
      have := h3 k l[k] (by simp [hk])
      exact (Array.getElem?_eq_some_iff.1 this).1
    rw [Array.getElem?_setIfInBounds_self_of_lt hc, hy']
  · rw [List.getElem?_set_ne e] at hy
    rw [Array.getElem?_setIfInBounds_ne e]
    exact h3 i y hy
theorem BytesAt.string {w : World} {G : Nat} {l : List UInt8} (h : BytesAt w G l) (n c : Nat) (hn : l.length = n) : (convert 50 9 (.slice (some ⟨G, 0, none⟩) n c)).run Tryz.prog w = .ok (.string ⟨l.toArray⟩) w := by
  have := run_convert_bytes_arg (P := Tryz.prog) w 50 5 Tryz.underlying50 Tryz.underlying5 G 0 n c (l.map fun c => (c.toNat : Int)) (by simpa using hn) (fun i hi => by
    have hx : l[i]? = some (l[i]'(by omega)) := by simp [show i < l.length by omega]
    rw [Nat.zero_add, h.cell hx]
    simp [List.getD_eq_getElem?_getD, show i < l.length by omega]) 9 Tryz.underlying9
  rw [this, strOfNums_bytes]
def upperB (c : UInt8) : Bool := decide (65 ≤ c.toNat) && decide (c.toNat ≤ 90)
def smallB (c : UInt8) : UInt8 := if upperB c then c + 32 else c
/-- A text whose first k letters have been made small. -/
def smallTo (l : List UInt8) (k : Nat) : List UInt8 := (l.take k).map smallB ++ l.drop k
theorem smallTo_length (l : List UInt8) (k : Nat) : (smallTo l k).length = l.length := by simp [smallTo]; omega
theorem smallTo_zero (l : List UInt8) : smallTo l 0 = l := by simp [smallTo]
theorem smallTo_all (l : List UInt8) : smallTo l l.length = l.map smallB := by simp [smallTo]
theorem smallTo_at (l : List UInt8) (k : Nat) (x : UInt8) (h : l[k]? = some x) : (smallTo l k)[k]? = some x := by
  have hk := (List.getElem?_eq_some_iff.1 h).1
  unfold smallTo
  rw [List.getElem?_append_right (by simp; omega)]
  simp only [List.length_map, List.length_take, Nat.min_eq_left (Nat.le_of_lt hk), Nat.sub_self]
  simpa using h
theorem smallTo_set (l : List UInt8) (k : Nat) (x : UInt8) (h : l[k]? = some x) : (smallTo l k).set k (smallB x) = smallTo l (k + 1) := by
  have hk := (List.getElem?_eq_some_iff.1 h).1
  have hd : l.drop k = x :: l.drop (k + 1) := by
    rw [List.drop_eq_getElem_cons hk]
    congr 1
    have := (List.getElem?_eq_some_iff.1 h).2
    exact this
  have ht : l.take (k + 1) = l.take k ++ [x] := by
    rw [List.take_succ_eq_append_getElem hk]
    congr 2
    exact (List.getElem?_eq_some_iff.1 h).2
  unfold smallTo
  rw [List.set_append_right _ _ (by simp; omega), hd, ht]
  simp [Nat.min_eq_left (Nat.le_of_lt hk)]
theorem smallTo_same (l : List UInt8) (k : Nat) (x : UInt8) (h : l[k]? = some x) (hu : upperB x = false) : smallTo l (k + 1) = smallTo l k := by
  rw [← smallTo_set l k x h]
  have : smallB x = x := by simp [smallB, hu]
  rw [this]
  have h2 := smallTo_at l k x h
  have hk := (List.getElem?_eq_some_iff.1 h2).1
  apply List.ext_getElem?
  intro j
  by_cases e : k = j
  · subst e
    rw [List.getElem?_set_self hk, h2]
  · rw [List.getElem?_set_ne e]
theorem upperB_iff {x : UInt8} (h : upperB x = true) : 65 ≤ x.toNat ∧ x.toNat ≤ 90 := by simpa [upperB] using h
theorem upperB_not {x : UInt8} (h : upperB x = false) : x.toNat < 65 ∨ 90 < x.toNat := by
  unfold upperB at h
  simp at h
  omega
theorem smallB_up {x : UInt8} (h : upperB x = true) : ((smallB x).toNat : Int) = ((x.toNat + 32 : Nat) : Int) := by
  have hb := upperB_iff h
  unfold smallB
  rw [if_pos h, UInt8.toNat_add]
  have : (32 : UInt8).toNat = 32 := rfl
  omega
set_option maxRecDepth 100000 in
set_option maxHeartbeats 1600000 in
/-- css.small. -/
theorem small_any (s : ByteArray) (w : World) (hs : s.size < 4294967281) :
    Calls Tryz.prog 100 #[.string s] w fun e w' => e = .returned (.string ⟨(s.data.toList.map smallB).toArray⟩) ∧ Below w.heap.size w w' := by
  have hS := Lib.run_convert_string_bytes (P := Tryz.prog) w 9 50 5 s Tryz.underlying9 Tryz.underlying50 Tryz.underlying5
  have hbw := Lib.bytesWorld_below w 5 s
  have HN := Lib.hid (bytesAt_new w s)
  have HB := Lib.hid hbw
  have hsz := Lib.size_eq s
  obtain ⟨l, hl⟩ : ∃ l, s.data.toList = l := ⟨_, rfl⟩
  rw [hl] at HN hsz ⊢
  clear hl hbw
  go_enter Tryz.func100, Tryz.ntmps100
  go_wp2
  go_loopw [10] (fun i wr => Below w.heap.size w wr ∧ ∃ k : Nat, k ≤ l.length ∧ i = .int .i64 (k : Int) ∧ Hid (BytesAt wr w.heap.size (smallTo l k))) (fun i _ => l.length - (intOf i).toNat)
  case atStart => exact ⟨HB.out, 0, Nat.zero_le _, rfl, by rw [smallTo_zero]; exact HN⟩
  case round =>
    obtain ⟨hb, k, hk, rfl, hO⟩ := hrel
    have HB2 := Lib.hid hb
    clear hb hS
    by_cases hlt : k < l.length
    · obtain ⟨x, hx⟩ : ∃ x, l[k]? = some x := ⟨l[k], by simp [hlt]⟩
      have hc := hO.out.cell (smallTo_at l k x hx)
      have hf := hO.out.free (i := k) (by rw [smallTo_length]; exact hlt)
      have hx0 : x.toNat < 256 := x.toNat_lt
      by_cases hu : upperB x = true
      · have hst := hO.out.set k (smallB x)
        rw [smallTo_set l k x hx, smallB_up hu] at hst
        have HS := Lib.hid hst
        have hx1 := (upperB_iff hu).1
        have hx2 := (upperB_iff hu).2
        clear hst hu hx
        go_wp2
        go_roundw
        case rel => exact ⟨HB2.out.setCell (p := ⟨w.heap.size, k, none⟩) (Nat.le_refl _) _, k + 1, by omega, by go_num, by first | exact HS | (have h := HS.out; rw [show ((x.toNat + 32 : Nat) : Int) = (x.toNat : Int) - 65 + 97 by omega] at h; exact h)⟩
        case measure => simp [intOf]; omega
      · have hu' : upperB x = false := by simpa using hu
        have HS := hO
        rw [← smallTo_same l k x hx hu'] at HS
        clear hO hx
        rcases upperB_not hu' with h1 | h1
        all_goals
          clear hu hu'
          go_wp2
          go_roundw
          case rel => exact ⟨HB2.out, k + 1, by omega, by go_num, HS⟩
          case measure => simp [intOf]; omega
    · obtain rfl : k = l.length := by omega
      have hcv := hO.out.string l.length (grownCap w l.length 0 5) (smallTo_length l l.length)
      rw [smallTo_all] at hcv
      go_wp2
      go_ret
      exact ⟨rfl, HB2.out⟩
set_option maxRecDepth 100000 in
set_option maxHeartbeats 1600000 in
/-- The document's Small. -/
theorem refSmall_any (s : ByteArray) (w : World) (hs : s.size < 4294967281) :
    Calls Tryz.prog 76 #[.string s] w fun e w' => e = .returned (.string ⟨(s.data.toList.map smallB).toArray⟩) ∧ Below w.heap.size w w' := by
  have hS := Lib.run_convert_string_bytes (P := Tryz.prog) w 9 50 5 s Tryz.underlying9 Tryz.underlying50 Tryz.underlying5
  have hbw := Lib.bytesWorld_below w 5 s
  have HN := Lib.hid (bytesAt_new w s)
  have HB := Lib.hid hbw
  have hsz := Lib.size_eq s
  obtain ⟨l, hl⟩ : ∃ l, s.data.toList = l := ⟨_, rfl⟩
  rw [hl] at HN hsz ⊢
  clear hl hbw
  go_enter Tryz.func76, Tryz.ntmps76
  go_wp2
  go_loopw [4] (fun i wr => Below w.heap.size w wr ∧ ∃ k : Nat, k ≤ l.length ∧ i = .int .i64 (k : Int) ∧ Hid (BytesAt wr w.heap.size (smallTo l k))) (fun i _ => l.length - (intOf i).toNat)
  case atStart => exact ⟨HB.out, 0, Nat.zero_le _, rfl, by rw [smallTo_zero]; exact HN⟩
  case round =>
    obtain ⟨hb, k, hk, rfl, hO⟩ := hrel
    have HB2 := Lib.hid hb
    clear hb hS
    by_cases hlt : k < l.length
    · obtain ⟨x, hx⟩ : ∃ x, l[k]? = some x := ⟨l[k], by simp [hlt]⟩
      have hc := hO.out.cell (smallTo_at l k x hx)
      have hf := hO.out.free (i := k) (by rw [smallTo_length]; exact hlt)
      have hx0 : x.toNat < 256 := x.toNat_lt
      by_cases hu : upperB x = true
      · have hst := hO.out.set k (smallB x)
        rw [smallTo_set l k x hx, smallB_up hu] at hst
        have HS := Lib.hid hst
        have hx1 := (upperB_iff hu).1
        have hx2 := (upperB_iff hu).2
        clear hst hu hx
        go_wp2
        go_roundw
        case rel => exact ⟨HB2.out.setCell (p := ⟨w.heap.size, k, none⟩) (Nat.le_refl _) _, k + 1, by omega, by go_num, by first | exact HS | (have h := HS.out; rw [show ((x.toNat + 32 : Nat) : Int) = (x.toNat : Int) + 32 by omega] at h; exact h)⟩
        case measure => simp [intOf]; omega
      · have hu' : upperB x = false := by simpa using hu
        have HS := hO
        rw [← smallTo_same l k x hx hu'] at HS
        clear hO hx
        rcases upperB_not hu' with h1 | h1
        all_goals
          clear hu hu'
          go_wp2
          go_roundw
          case rel => exact ⟨HB2.out, k + 1, by omega, by go_num, HS⟩
          case measure => simp [intOf]; omega
    · obtain rfl : k = l.length := by omega
      have hcv := hO.out.string l.length (grownCap w l.length 0 5) (smallTo_length l l.length)
      rw [smallTo_all] at hcv
      go_wp2
      go_ret
      exact ⟨rfl, HB2.out⟩
end Go.Proofs.YtchooidhieaphaaGreatDoor
