/- strings.NewReplacer and the Replacer's build, at the three cut bytes of link.Clean. -/
/-
  strings.NewReplacer at the three pairs that link.Clean hands it, and (*Replacer).build: the table of replacements that it makes.
-/
import Derived.Test.YtchooidhieaphaaGreatDoorBase
import Derived.Test.YtchooidhieaphaaGreatDoorWWords
import Derived.Lib.ConvBytes
import Derived.Lib.AtoiErrMem
import Derived.Deep.WholeRow
set_option linter.unusedVariables false
set_option linter.unusedSimpArgs false
namespace Go.Proofs.YtchooidhieaphaaGreatDoor
open Go.RowKit Go.Proofs.YtchooidhieaphaaGreatDoorW.PrintWords

theorem info9 : (Tryz.prog.info? 9).map (fun i => (i.zero, i.size, i.bytes)) = some (some (.string ⟨#[]⟩), 1, 16) := by kernel_rfl
/-- What NewReplacer is handed. -/
def oldnew : List Value := [.string ⟨#[9]⟩, .string ⟨#[]⟩, .string ⟨#[10]⟩, .string ⟨#[]⟩, .string ⟨#[13]⟩, .string ⟨#[]⟩]
/-- A Replacer's five cells at block b. -/
def ReplAt (w : World) (b : Nat) (d s : Int) (r v : Value) : Prop := ∃ u : Int, w.heap[b]? = some (.cells #[.int .u32 d, .int .i32 s, .int .u32 u, r, v] 92 (0, 0))
/-- A new Replacer. -/
def NewRepl (w w' : World) (e : Ending) : Prop := ∃ b o c, e = .returned (.pointer (some ⟨b, 0, none⟩)) ∧ ReplAt w' b 0 0 .nilIface (.slice (some ⟨o, 0, none⟩) 6 c) ∧ o ≠ b ∧ w.heap.size ≤ b ∧ w.heap.size ≤ o ∧ (∀ j u, oldnew[j]? = some u → w'.cell? ⟨o, j, none⟩ = some u) ∧ Below w.heap.size w w'

set_option maxRecDepth 100000 in
set_option maxHeartbeats 400000 in
theorem newReplacer_any (o c : Nat) (w : World) (hc : ∀ j u, oldnew[j]? = some u → w.cell? ⟨o, j, none⟩ = some u) :
    Calls Tryz.prog 54 #[.slice (some ⟨o, 0, none⟩) 6 c] w fun e w' => NewRepl w w' e := by
  obtain ⟨i9, hi, hz0, hz1, hz2⟩ := info_parts info9
  have HC := Lib.hid hc
  clear hc
  go_enter Tryz.func54, Tryz.ntmps54
  go_wp2_with (at_builtin; go_loud (refine wpList_append_own _ rfl _ _ 73 rfl w.heap.size 9 i9 (.string ⟨#[]⟩) 1 16 Tryz.underlying73 hi hz0 hz1 hz2 rfl (by decide) (.slice none 0 0) 0 [] rfl ⟨rfl, .inl ⟨rfl, rfl⟩⟩ ⟨o, 0, none⟩ 6 c oldnew rfl rfl ?c1 ?c2 (by decide) (by decide) (Nat.le_refl _) ?_))
  case c1 => exact fun j u h => by have := HC.out j u h; rw [Addr.add_lit, Nat.zero_add]; exact this
  case c2 => decide
  intro v' w1 hown hgr hne
  obtain ⟨g, cap, cur, hv, hg, hcur, hcap, hmax, hsz, htk⟩ : ∃ g cap cur, v' = .slice (some ⟨g, 0, none⟩) 6 cap ∧ w.heap.size ≤ g ∧ w1.heap[g]? = some (.cells cur 9 (0, 0)) ∧ 6 ≤ cap ∧ cap ≤ maxLen ∧ cur.size = cap * 1 ∧ cur.toList.take (6 * 1) = oldnew := by
    rcases hown.2 with h | h
    · exact absurd h.1 (by simpa using hne)
    · exact h
  have hb : Below w.heap.size w w1 := (Below.refl _ w).grown hgr (Nat.le_refl _) (by intro k hk; cases hk)
  have HO := Lib.hid hown
  have HB := Lib.hid hb
  have HC2 := Lib.hid hcur
  have HT := Lib.hid htk
  have HS := Lib.hid hsz
  clear hown hb hcur htk hsz hne hgr
  rw [hv]
  clear hv
  go_wp2
  go_ret
  have hlt : g < w1.heap.size := blk_lt HC2.out
  refine ⟨w1.heap.size, g, cap, rfl, ⟨0, by simpa using heap_alloc_new w1 _⟩, by omega, HB.out.size, hg, fun j u h => ?_, HB.out.alloc HB.out.size _⟩
  have h2 : (w1.alloc (Obj.cells #[Value.int IntKind.u32 0, Value.int IntKind.i32 0, Value.int IntKind.u32 0, Value.nilIface, Value.slice (some { block := g, off := 0 }) 6 cap] 92)).cell? ⟨g, j, none⟩ = w1.cell? ⟨g, j, none⟩ :=
    World.cell?_of_block (w := w1) (Below.heap_alloc w1 _ g hlt)
  rw [h2, cell_of_row w1 g j cur 9 (0, 0) HC2.out]
  have h3 : j < 6 := by
    have := (List.getElem?_eq_some_iff.1 h).1
    simpa [oldnew] using this
  have h4 := HT.out
  rw [← h4] at h
  rw [List.getElem?_take_of_lt (by omega)] at h
  simpa using h
theorem zero149_size : Tryz.zeroCells149.size = 257 := by kernel_rfl
theorem zero149_set (v : Value) (hv : v.oneCell' = true) : (Tryz.zeroCells149.setIfInBounds 256 v).all (·.oneCell') = true := by
  have h : Tryz.zeroCells149.all (·.oneCell') = true := by kernel_rfl
  rw [Array.all_eq_true] at h ⊢
  intro i hi
  rw [Array.getElem_setIfInBounds]
  split
  · exact hv
  · exact h i (by simpa using hi)
theorem store149 (W : World) (v : Value) (hv : v.oneCell' = true) : (storeCells ⟨W.heap.size, 0, none⟩ (Tryz.zeroCells149.toList.set 256 v) 0).run Tryz.prog (W.alloc (.cells Tryz.zeroCells149 149)) = .ok () (W.alloc (.cells (Tryz.zeroCells149.setIfInBounds 256 v) 149)) := by
  rw [← Array.toList_setIfInBounds]
  exact run_storeCells_new W 149 _ _ (by rw [Array.size_setIfInBounds, zero149_size]; kernel_rfl) (by simp) (zero149_set v hv)
/-- A table of replacements under way: block B; what is in it is to be left out; the list of these. -/
def Stage (w wr : World) (B : Nat) (D : List Nat) (S : List Value) : Prop :=
  ∃ cs v, wr.heap[B]? = some (.cells cs 149 (0, 0)) ∧ cs.size = 257 ∧ (∀ i, i < 256 → (i ∈ D → ∃ g c, cs[i]? = some (.slice (some ⟨g, 0, none⟩) 0 c)) ∧ (i ∉ D → cs[i]? = some (.slice none 0 0))) ∧
    cs[256]? = some v ∧ wr.ownsRow w.heap.size 9 1 v D.length S ∧ Below w.heap.size w wr ∧ w.heap.size ≤ B

theorem stage_start (w : World) : Stage w ((w.alloc (.cells #[.string ⟨#[]⟩, .string ⟨#[]⟩, .string ⟨#[]⟩] 9)).alloc (.cells (Tryz.zeroCells149.setIfInBounds 256 (.slice (some ⟨w.heap.size, 0, none⟩) 0 3)) 149)) (w.heap.size + 1) [] [] := by
  refine ⟨_, .slice (some ⟨w.heap.size, 0, none⟩) 0 3, by simpa using heap_alloc_new (w.alloc (.cells #[.string ⟨#[]⟩, .string ⟨#[]⟩, .string ⟨#[]⟩] 9)) _, by rw [Array.size_setIfInBounds, zero149_size], fun i hi => ⟨fun h => (by cases h), fun _ => ?_⟩, ?_, ⟨rfl, .inr ⟨w.heap.size, 3, #[.string ⟨#[]⟩, .string ⟨#[]⟩, .string ⟨#[]⟩], rfl, Nat.le_refl _, ?_, Nat.zero_le _, by decide, rfl, rfl⟩⟩, ((Below.refl _ _).alloc (Nat.le_refl _) _).alloc (by simp) _, by omega⟩
  · have h : Tryz.zeroCells149.toList = List.replicate 256 (.slice none 0 0) ++ [.slice none 0 0] := by kernel_rfl
    rw [Array.getElem?_setIfInBounds_ne (by omega), ← Array.getElem?_toList, h]
    rw [List.getElem?_append_left (by rw [List.length_replicate]; exact hi), List.getElem?_replicate, if_pos hi]
  · exact Array.getElem?_setIfInBounds_self_of_lt (by rw [zero149_size]; decide)
  · exact blk_alloc (blk_new w _) _

theorem own_ne_B {w wr : World} {B n : Nat} {cs : Array Value} {v : Value} {S : List Value} (hB : wr.heap[B]? = some (.cells cs 149 (0, 0))) (hown : wr.ownsRow w.heap.size 9 1 v n S) : some B ≠ v.ownBlock := by
  rcases hown.2 with h | ⟨g, cap, cur, hv, hg, hcur, _⟩
  · rw [h.1]; simp [Value.ownBlock]
  · rw [hv]
    intro e
    simp only [Value.ownBlock, Option.some.injEq] at e
    exact blk_ne hB hcur (by decide) e

theorem stage_mid {w wr w1 : World} {B n : Nat} {cs : Array Value} {v : Value} {S : List Value} (hB : wr.heap[B]? = some (.cells cs 149 (0, 0))) (hown : wr.ownsRow w.heap.size 9 1 v n S) (O1 O2 : Obj)
    (hg : ((wr.alloc O1).alloc O2).grownBy w1 v.ownBlock) : w1.heap[B]? = some (.cells cs 149 (0, 0)) :=
  blk_grown (blk_alloc (blk_alloc hB O1) O2) hg (own_ne_B hB hown)

theorem below_bytesWorld {B : Nat} {w W : World} (h : Below B w W) (hB : B ≤ W.heap.size) (e : TypeId) (s : ByteArray) : Below B w (Lib.bytesWorld W e s) := h.trans ((Lib.bytesWorld_below W e s).mono hB)

theorem stage_end {w wr w1 : World} {B : Nat} {D : List Nat} {S S' : List Value} {cs : Array Value} {v v' : Value} (hB : wr.heap[B]? = some (.cells cs 149 (0, 0))) (hsz : cs.size = 257)
    (hcs : ∀ i, i < 256 → (i ∈ D → ∃ g c, cs[i]? = some (.slice (some ⟨g, 0, none⟩) 0 c)) ∧ (i ∉ D → cs[i]? = some (.slice none 0 0)))
    (hown : wr.ownsRow w.heap.size 9 1 v D.length S) (hbel : Below w.heap.size w wr) (hBl : w.heap.size ≤ B) (O1 O2 : Obj) (hg : ((wr.alloc O1).alloc O2).grownBy w1 v.ownBlock)
    (hown' : w1.ownsRow w.heap.size 9 1 v' (D.length + 1) S') (x : Nat) (hx : x < 256) (g c : Nat) :
    Stage w ((Lib.bytesWorld (w1.setCell ⟨B, 256, none⟩ v') 5 ⟨#[]⟩).setCell ⟨B, x, none⟩ (.slice (some ⟨g, 0, none⟩) 0 c)) B (x :: D) S' := by
  have h1 := stage_mid hB hown O1 O2 hg
  have h2 := blk_set h1 256 v'
  have hlt := blk_lt h2
  have h3 : (Lib.bytesWorld (w1.setCell ⟨B, 256, none⟩ v') 5 ⟨#[]⟩).heap[B]? = some (.cells (cs.setIfInBounds 256 v') 149 (0, 0)) := (Lib.bytesWorld_at_old _ 5 _ B hlt).trans h2
  have h4 := blk_set h3 x (.slice (some ⟨g, 0, none⟩) 0 c)
  have hne : some B ≠ v'.ownBlock := own_ne_B h1 hown'
  refine ⟨_, v', h4, by simp [hsz], fun i hi => ?_, ?_, ?_, ?_, hBl⟩
  · by_cases e : i = x
    · subst e
      refine ⟨fun _ => ⟨g, c, ?_⟩, fun h => absurd (List.mem_cons_self ..) h⟩
      exact Array.getElem?_setIfInBounds_self_of_lt (by rw [Array.size_setIfInBounds, hsz]; omega)
    · have h5 : ((cs.setIfInBounds 256 v').setIfInBounds x (.slice (some ⟨g, 0, none⟩) 0 c))[i]? = cs[i]? := by
        rw [Array.getElem?_setIfInBounds_ne (by omega), Array.getElem?_setIfInBounds_ne (by omega)]
      rw [h5]
      have := hcs i hi
      refine ⟨fun h => this.1 ?_, fun h => this.2 (fun h' => h (List.mem_cons_of_mem _ h'))⟩
      rcases List.mem_cons.1 h with h | h
      · exact absurd h e
      · exact h
  · rw [Array.getElem?_setIfInBounds_ne (by omega)]
    exact Array.getElem?_setIfInBounds_self_of_lt (by rw [hsz]; decide)
  · have k1 := ownsRow_setCell_other hown' (a := ⟨B, 256, none⟩) (fun e => hne e.symm) v'
    have k2 : (Lib.bytesWorld (w1.setCell ⟨B, 256, none⟩ v') 5 ⟨#[]⟩).ownsRow w.heap.size 9 1 v' (D.length + 1) S' :=
      k1.kept (grown_of_below (Lib.bytesWorld_below _ _ _) none) (Classical.em _)
    exact ownsRow_setCell_other k2 (a := ⟨B, x, none⟩) (fun e => hne e.symm) _
  · have b1 : Below w.heap.size w w1 := ((hbel.alloc hbel.size O1).alloc (by simp; have := hbel.size; omega) O2).grown hg (by simp; have := hbel.size; omega) (fun k hk => by
      rcases hown.2 with h | ⟨g', cap, cur, hv, hg', _⟩
      · rw [h.1] at hk; cases hk
      · rw [hv] at hk; cases hk; exact hg')
    have b2 := b1.setCell (p := ⟨B, 256, none⟩) hBl v'
    exact (below_bytesWorld b2 (by have := b2.size; exact this) 5 ⟨#[]⟩).setCell (p := ⟨B, x, none⟩) hBl _

set_option maxRecDepth 100000 in
set_option maxHeartbeats 1000000 in
theorem build_any (b o c : Nat) (w : World) (hr : w.cell? ⟨b, 4, none⟩ = some (.slice (some ⟨o, 0, none⟩) 6 c))
    (h0 : w.cell? ⟨o, 0, none⟩ = some (.string ⟨#[9]⟩)) (h1 : w.cell? ⟨o, 1, none⟩ = some (.string ⟨#[]⟩)) (h2 : w.cell? ⟨o, 2, none⟩ = some (.string ⟨#[10]⟩))
    (h3 : w.cell? ⟨o, 3, none⟩ = some (.string ⟨#[]⟩)) (h4 : w.cell? ⟨o, 4, none⟩ = some (.string ⟨#[13]⟩)) (h5 : w.cell? ⟨o, 5, none⟩ = some (.string ⟨#[]⟩)) :
    Calls Tryz.prog 109 #[.pointer (some ⟨b, 0, none⟩)] w fun e w' => ∃ B, e = .returned (.iface 150 (.pointer (some ⟨B, 0, none⟩))) ∧ Stage w w' B [9, 10, 13] [.string ⟨#[13]⟩, .string ⟨#[10]⟩, .string ⟨#[9]⟩] := by
  have hmk : ∀ w, (Instr.makeSlice 73 (.int .i64 0) (.int .i64 3)).run Tryz.prog w = .ok (.slice (some ⟨w.heap.size, 0, none⟩) 0 3) (w.alloc (.cells #[.string ⟨#[]⟩, .string ⟨#[]⟩, .string ⟨#[]⟩] 9)) := fun _ => by kernel_rfl
  have hst := store149 (w.alloc (.cells #[.string ⟨#[]⟩, .string ⟨#[]⟩, .string ⟨#[]⟩] 9)) (.slice (some ⟨w.heap.size, 0, none⟩) 0 3) rfl
  simp only [World.size_alloc] at hst
  obtain ⟨i9, hi, hz0, hz1, hz2⟩ := info_parts info9
  go_enter Tryz.func109, Tryz.ntmps109
  go_wp2
  go_loop [4, 5] (fun a i => (a = .bool true ∧ i = .int .i64 0) ∨ (a = .bool false ∧ (i = .int .i64 2 ∨ i = .int .i64 4 ∨ i = .int .i64 6))) (fun _ i => 8 - (intOf i).toNat)
  case atStart => exact .inl ⟨rfl, rfl⟩
  case round =>
    rcases hrel with ⟨rfl, rfl⟩ | ⟨rfl, rfl | rfl | rfl⟩
    · go_wp2
      go_round
      case rel => exact .inr ⟨rfl, .inl rfl⟩
      case measure => simp [intOf]
    · go_wp2
      go_round
      case rel => exact .inr ⟨rfl, .inr (.inl rfl)⟩
      case measure => simp [intOf]
    · go_wp2
      go_round
      case rel => exact .inr ⟨rfl, .inr (.inr rfl)⟩
      case measure => simp [intOf]
    · go_wp2
      go_loopw [12] (fun i wr => (i = .int .i64 4 ∧ Stage w wr (w.heap.size + 1) [] []) ∨ (i = .int .i64 2 ∧ Stage w wr (w.heap.size + 1) [13] [.string ⟨#[13]⟩]) ∨ (i = .int .i64 0 ∧ Stage w wr (w.heap.size + 1) [10, 13] [.string ⟨#[13]⟩, .string ⟨#[10]⟩]) ∨ (i = .int .i64 (-2) ∧ Stage w wr (w.heap.size + 1) [9, 10, 13] [.string ⟨#[13]⟩, .string ⟨#[10]⟩, .string ⟨#[9]⟩])) (fun i _ => (intOf i + 6).toNat)
      case atStart => exact .inl ⟨rfl, stage_start w⟩
      case round =>
        clear hst hmk
        rcases hrel with ⟨rfl, hS⟩ | ⟨rfl, hS⟩ | ⟨rfl, hS⟩ | ⟨rfl, hS⟩
        · obtain ⟨cs, v, hB, hsz, hcs, hv, hown, hbel, hBl⟩ := hS
          have k1 := cell_later hbel h4
          have k2 := cell_later hbel h5
          have cX : wr.cell? ⟨w.heap.size + 1, 13, none⟩ = some (.slice none 0 0) := (blk_cell hB 13).trans ((hcs 13 (by decide)).2 (by decide))
          have c256 : wr.cell? ⟨w.heap.size + 1, 256, none⟩ = some v := (blk_cell hB 256).trans hv
          have hnil := fun (W : World) => Lib.run_eql_slice_nil (P := Tryz.prog) W 50 5 none 0 0 0 0 Tryz.underlying50
          have hx : ∀ h : 0 < (⟨#[13]⟩ : ByteArray).size, ((⟨#[13]⟩ : ByteArray)[0]'h).toNat = 13 := fun _ => rfl
          have hcv := fun (W : World) => run_convert_bytes_arg (P := Tryz.prog) (W.alloc (.cells #[.int .u8 13] 5)) 50 5 Tryz.underlying50 Tryz.underlying5 W.heap.size 0 1 1 [13] rfl (fun i hi => by obtain rfl : i = 0 := (by simp at hi; omega); simp) 9 Tryz.underlying9
          have HB := Lib.hid hB
          have HC := Lib.hid hcs
          have HZ := Lib.hid hsz
          have HV := Lib.hid hv
          have HO := Lib.hid hown
          have HL := Lib.hid hbel
          clear hB hcs hsz hv hown hbel h0 h1 h2 h3 h4 h5 hr
          have hS := fun (W : World) => Lib.run_convert_string_bytes (P := Tryz.prog) W 9 50 5 ⟨#[]⟩ Tryz.underlying9 Tryz.underlying50 Tryz.underlying5
          go_wp2_with (at_builtin; go_loud (refine wpList_append_own _ rfl _ _ 73 rfl w.heap.size 9 i9 (.string ⟨#[]⟩) 1 16 Tryz.underlying73 hi hz0 hz1 hz2 rfl (by decide) v 0 [] rfl ((HO.out.alloc _).alloc _) ⟨wr.heap.size + 1, 0, none⟩ 1 1 [.string ⟨#[13]⟩] rfl rfl ?c1 ?c2 (by decide) (by decide) ?c3 ?_))
          case c1 =>
            intro j u hj
            have hj0 : j = 0 := by
              have := (List.getElem?_eq_some_iff.1 hj).1
              simp at this
              omega
            subst hj0
            obtain rfl : Value.string ⟨#[13]⟩ = u := by simpa using hj
            rw [Addr.add_zero']
            have := blk_cell (heap_alloc_new (wr.alloc (Obj.cells #[Value.int IntKind.u8 13] 5)) (Obj.cells #[Value.string (strOfNums [13])] 9)) 0
            rw [World.size_alloc] at this
            exact this
          case c2 => decide
          case c3 => have := HL.out.size; simp; omega
          intro v' w1 hown' hgr hne
          obtain ⟨g', n', c', hv'⟩ : ∃ g n c, v' = .slice (some ⟨g, 0, none⟩) n c := by
            rcases hown'.2 with h | ⟨g, cap, cur, hv, _⟩
            · exact absurd h.1 (by simpa using hne)
            · exact ⟨g, _, cap, hv⟩
          have hm := stage_mid HB.out HO.out _ _ hgr
          have d256 : w1.cell? ⟨w.heap.size + 1, 256, none⟩ = some v := (blk_cell hm 256).trans HV.out
          have f256 : w1.frozen? ⟨w.heap.size + 1, 256, none⟩ = false := blk_frozen hm 256
          have dX : (Lib.bytesWorld (w1.setCell ⟨w.heap.size + 1, 256, none⟩ v') 5 ⟨#[]⟩).cell? ⟨w.heap.size + 1, 13, none⟩ = some (.slice none 0 0) := by
            rw [Lib.bytesWorld_old _ _ _ _ (blk_lt (blk_set hm 256 v')), blk_cell (blk_set hm 256 v') 13, Array.getElem?_setIfInBounds_ne (by decide)]
            exact (HC.out 13 (by decide)).2 (by decide)
          have fX : (Lib.bytesWorld (w1.setCell ⟨w.heap.size + 1, 256, none⟩ v') 5 ⟨#[]⟩).frozen? ⟨w.heap.size + 1, 13, none⟩ = false :=
            blk_frozen ((Lib.bytesWorld_at_old _ 5 _ _ (blk_lt (blk_set hm 256 v'))).trans (blk_set hm 256 v')) 13
          have HE := Lib.hid (fun (g c : Nat) => stage_end HB.out HZ.out HC.out HO.out HL.out (by omega) _ _ hgr hown' 13 (by decide) g c)
          clear hm cX c256 hgr hown' hne k1 k2
          rw [hv'] at dX fX HE ⊢
          clear hv'
          go_wp2
          go_roundw
          case rel => exact .inr (.inl ⟨rfl, HE.out _ _⟩)
          case measure => simp [intOf]
        · obtain ⟨cs, v, hB, hsz, hcs, hv, hown, hbel, hBl⟩ := hS
          have k1 := cell_later hbel h2
          have k2 := cell_later hbel h3
          have cX : wr.cell? ⟨w.heap.size + 1, 10, none⟩ = some (.slice none 0 0) := (blk_cell hB 10).trans ((hcs 10 (by decide)).2 (by decide))
          have c256 : wr.cell? ⟨w.heap.size + 1, 256, none⟩ = some v := (blk_cell hB 256).trans hv
          have hnil := fun (W : World) => Lib.run_eql_slice_nil (P := Tryz.prog) W 50 5 none 0 0 0 0 Tryz.underlying50
          have hx : ∀ h : 0 < (⟨#[10]⟩ : ByteArray).size, ((⟨#[10]⟩ : ByteArray)[0]'h).toNat = 10 := fun _ => rfl
          have hcv := fun (W : World) => run_convert_bytes_arg (P := Tryz.prog) (W.alloc (.cells #[.int .u8 10] 5)) 50 5 Tryz.underlying50 Tryz.underlying5 W.heap.size 0 1 1 [10] rfl (fun i hi => by obtain rfl : i = 0 := (by simp at hi; omega); simp) 9 Tryz.underlying9
          have HB := Lib.hid hB
          have HC := Lib.hid hcs
          have HZ := Lib.hid hsz
          have HV := Lib.hid hv
          have HO := Lib.hid hown
          have HL := Lib.hid hbel
          clear hB hcs hsz hv hown hbel h0 h1 h2 h3 h4 h5 hr
          have hS := fun (W : World) => Lib.run_convert_string_bytes (P := Tryz.prog) W 9 50 5 ⟨#[]⟩ Tryz.underlying9 Tryz.underlying50 Tryz.underlying5
          go_wp2_with (at_builtin; go_loud (refine wpList_append_own _ rfl _ _ 73 rfl w.heap.size 9 i9 (.string ⟨#[]⟩) 1 16 Tryz.underlying73 hi hz0 hz1 hz2 rfl (by decide) v 1 [.string ⟨#[13]⟩] rfl ((HO.out.alloc _).alloc _) ⟨wr.heap.size + 1, 0, none⟩ 1 1 [.string ⟨#[10]⟩] rfl rfl ?c1 ?c2 (by decide) (by decide) ?c3 ?_))
          case c1 =>
            intro j u hj
            have hj0 : j = 0 := by
              have := (List.getElem?_eq_some_iff.1 hj).1
              simp at this
              omega
            subst hj0
            obtain rfl : Value.string ⟨#[10]⟩ = u := by simpa using hj
            rw [Addr.add_zero']
            have := blk_cell (heap_alloc_new (wr.alloc (Obj.cells #[Value.int IntKind.u8 10] 5)) (Obj.cells #[Value.string (strOfNums [10])] 9)) 0
            rw [World.size_alloc] at this
            exact this
          case c2 => decide
          case c3 => have := HL.out.size; simp; omega
          intro v' w1 hown' hgr hne
          obtain ⟨g', n', c', hv'⟩ : ∃ g n c, v' = .slice (some ⟨g, 0, none⟩) n c := by
            rcases hown'.2 with h | ⟨g, cap, cur, hv, _⟩
            · exact absurd h.1 (by simpa using hne)
            · exact ⟨g, _, cap, hv⟩
          have hm := stage_mid HB.out HO.out _ _ hgr
          have d256 : w1.cell? ⟨w.heap.size + 1, 256, none⟩ = some v := (blk_cell hm 256).trans HV.out
          have f256 : w1.frozen? ⟨w.heap.size + 1, 256, none⟩ = false := blk_frozen hm 256
          have dX : (Lib.bytesWorld (w1.setCell ⟨w.heap.size + 1, 256, none⟩ v') 5 ⟨#[]⟩).cell? ⟨w.heap.size + 1, 10, none⟩ = some (.slice none 0 0) := by
            rw [Lib.bytesWorld_old _ _ _ _ (blk_lt (blk_set hm 256 v')), blk_cell (blk_set hm 256 v') 10, Array.getElem?_setIfInBounds_ne (by decide)]
            exact (HC.out 10 (by decide)).2 (by decide)
          have fX : (Lib.bytesWorld (w1.setCell ⟨w.heap.size + 1, 256, none⟩ v') 5 ⟨#[]⟩).frozen? ⟨w.heap.size + 1, 10, none⟩ = false :=
            blk_frozen ((Lib.bytesWorld_at_old _ 5 _ _ (blk_lt (blk_set hm 256 v'))).trans (blk_set hm 256 v')) 10
          have HE := Lib.hid (fun (g c : Nat) => stage_end HB.out HZ.out HC.out HO.out HL.out (by omega) _ _ hgr hown' 10 (by decide) g c)
          clear hm cX c256 hgr hown' hne k1 k2
          rw [hv'] at dX fX HE ⊢
          clear hv'
          go_wp2
          go_roundw
          case rel => exact .inr (.inr (.inl ⟨rfl, HE.out _ _⟩))
          case measure => simp [intOf]
        · obtain ⟨cs, v, hB, hsz, hcs, hv, hown, hbel, hBl⟩ := hS
          have k1 := cell_later hbel h0
          have k2 := cell_later hbel h1
          have cX : wr.cell? ⟨w.heap.size + 1, 9, none⟩ = some (.slice none 0 0) := (blk_cell hB 9).trans ((hcs 9 (by decide)).2 (by decide))
          have c256 : wr.cell? ⟨w.heap.size + 1, 256, none⟩ = some v := (blk_cell hB 256).trans hv
          have hnil := fun (W : World) => Lib.run_eql_slice_nil (P := Tryz.prog) W 50 5 none 0 0 0 0 Tryz.underlying50
          have hx : ∀ h : 0 < (⟨#[9]⟩ : ByteArray).size, ((⟨#[9]⟩ : ByteArray)[0]'h).toNat = 9 := fun _ => rfl
          have hcv := fun (W : World) => run_convert_bytes_arg (P := Tryz.prog) (W.alloc (.cells #[.int .u8 9] 5)) 50 5 Tryz.underlying50 Tryz.underlying5 W.heap.size 0 1 1 [9] rfl (fun i hi => by obtain rfl : i = 0 := (by simp at hi; omega); simp) 9 Tryz.underlying9
          have HB := Lib.hid hB
          have HC := Lib.hid hcs
          have HZ := Lib.hid hsz
          have HV := Lib.hid hv
          have HO := Lib.hid hown
          have HL := Lib.hid hbel
          clear hB hcs hsz hv hown hbel h0 h1 h2 h3 h4 h5 hr
          have hS := fun (W : World) => Lib.run_convert_string_bytes (P := Tryz.prog) W 9 50 5 ⟨#[]⟩ Tryz.underlying9 Tryz.underlying50 Tryz.underlying5
          go_wp2_with (at_builtin; go_loud (refine wpList_append_own _ rfl _ _ 73 rfl w.heap.size 9 i9 (.string ⟨#[]⟩) 1 16 Tryz.underlying73 hi hz0 hz1 hz2 rfl (by decide) v 2 [.string ⟨#[13]⟩, .string ⟨#[10]⟩] rfl ((HO.out.alloc _).alloc _) ⟨wr.heap.size + 1, 0, none⟩ 1 1 [.string ⟨#[9]⟩] rfl rfl ?c1 ?c2 (by decide) (by decide) ?c3 ?_))
          case c1 =>
            intro j u hj
            have hj0 : j = 0 := by
              have := (List.getElem?_eq_some_iff.1 hj).1
              simp at this
              omega
            subst hj0
            obtain rfl : Value.string ⟨#[9]⟩ = u := by simpa using hj
            rw [Addr.add_zero']
            have := blk_cell (heap_alloc_new (wr.alloc (Obj.cells #[Value.int IntKind.u8 9] 5)) (Obj.cells #[Value.string (strOfNums [9])] 9)) 0
            rw [World.size_alloc] at this
            exact this
          case c2 => decide
          case c3 => have := HL.out.size; simp; omega
          intro v' w1 hown' hgr hne
          obtain ⟨g', n', c', hv'⟩ : ∃ g n c, v' = .slice (some ⟨g, 0, none⟩) n c := by
            rcases hown'.2 with h | ⟨g, cap, cur, hv, _⟩
            · exact absurd h.1 (by simpa using hne)
            · exact ⟨g, _, cap, hv⟩
          have hm := stage_mid HB.out HO.out _ _ hgr
          have d256 : w1.cell? ⟨w.heap.size + 1, 256, none⟩ = some v := (blk_cell hm 256).trans HV.out
          have f256 : w1.frozen? ⟨w.heap.size + 1, 256, none⟩ = false := blk_frozen hm 256
          have dX : (Lib.bytesWorld (w1.setCell ⟨w.heap.size + 1, 256, none⟩ v') 5 ⟨#[]⟩).cell? ⟨w.heap.size + 1, 9, none⟩ = some (.slice none 0 0) := by
            rw [Lib.bytesWorld_old _ _ _ _ (blk_lt (blk_set hm 256 v')), blk_cell (blk_set hm 256 v') 9, Array.getElem?_setIfInBounds_ne (by decide)]
            exact (HC.out 9 (by decide)).2 (by decide)
          have fX : (Lib.bytesWorld (w1.setCell ⟨w.heap.size + 1, 256, none⟩ v') 5 ⟨#[]⟩).frozen? ⟨w.heap.size + 1, 9, none⟩ = false :=
            blk_frozen ((Lib.bytesWorld_at_old _ 5 _ _ (blk_lt (blk_set hm 256 v'))).trans (blk_set hm 256 v')) 9
          have HE := Lib.hid (fun (g c : Nat) => stage_end HB.out HZ.out HC.out HO.out HL.out (by omega) _ _ hgr hown' 9 (by decide) g c)
          clear hm cX c256 hgr hown' hne k1 k2
          rw [hv'] at dX fX HE ⊢
          clear hv'
          go_wp2
          go_roundw
          case rel => exact .inr (.inr (.inr ⟨rfl, HE.out _ _⟩))
          case measure => simp [intOf]
        · have HS := Lib.hid hS
          clear hS
          go_wp2
          go_ret
          exact ⟨_, rfl, HS.out⟩
end Go.Proofs.YtchooidhieaphaaGreatDoor
