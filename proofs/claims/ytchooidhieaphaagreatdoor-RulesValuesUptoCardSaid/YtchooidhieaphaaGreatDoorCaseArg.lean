/- How a law's one argument (a policy, the parts, an element's name, an attribute) lies in memory, out of what the form says of its reading. -/
import Derived.Test.YtchooidhieaphaaGreatDoorLaid
import Derived.Test.YtchooidhieaphaaGreatDoorR0
import Derived.ChangeArms
import Derived.OpenShut
set_option linter.unusedVariables false
set_option linter.unusedSimpArgs false
namespace Go.Proofs.YtchooidhieaphaaGreatDoor
open Go.ChangeShapes Go.WideShapes Go.ChangeAt Go.RowKit Go.Proofs.YtchooidhieaphaaGreatDoorW.PrintWords PRulesValues
section
variable {H : Type} {enc : TypeId × Value → H} {W : World} {base : Nat} {sp : Nat → Bool} {held : Bool} {fuel : Nat} {cs : List Value} {x : DataW H × List MemPlace}
theorem cells4 : Tryz.prog.cellsOf 4 = 1 := by kernel_rfl
theorem cells26 : Tryz.prog.cellsOf 26 = 3 := by kernel_rfl
theorem cells27 : Tryz.prog.cellsOf 27 = 1 := by kernel_rfl
theorem cells29 : Tryz.prog.cellsOf 29 = 2 := by kernel_rfl
theorem cells31 : Tryz.prog.cellsOf 31 = 7 := by kernel_rfl
theorem cells39 : Tryz.prog.cellsOf 39 = 4 := by kernel_rfl
def str (s : ByteArray) : DataW H := .lit (.string s.data.toList)
theorem two_of {l : List Value} (h : l.length = 2) : ∃ a b, l = [a, b] := by
  match l, h with
  | [a, b], _ => exact ⟨a, b, rfl⟩
set_option maxRecDepth 100000 in
theorem open29 (h : DataW.trod enc Tryz.prog W base sp held fuel 29 cs = some x) : ∃ n v : ByteArray, cs = [.string n, .string v] ∧ x.1 = .agg [str n, str v] := by
  obtain ⟨xs, k, rfl, rfl, hl, hxl, hf⟩ := DataW.trod_struct Tryz.underlying29 h
  rw [cells29] at hl
  obtain ⟨c0, c1, rfl⟩ := two_of hl
  have h0 := hf 0 _ rfl
  have h1 := hf 1 _ rfl
  match xs, hxl, h0, h1 with
  | [y0, y1], _, h0, h1 =>
    simp only [cells9, List.drop_zero, List.take_succ_cons, List.take_zero, List.getElem?_cons_zero, List.drop_succ_cons, List.getElem?_cons_succ] at h0 h1
    obtain ⟨s0, e0, r0, _⟩ := DataW.trod_string Tryz.underlying9 h0
    obtain ⟨s1, e1, r1, _⟩ := DataW.trod_string Tryz.underlying9 h1
    injection e0 with e0
    injection e1 with e1
    subst e0 e1 r0 r1
    exact ⟨s0, s1, rfl, rfl⟩
set_option maxRecDepth 100000 in
theorem open39 (h : DataW.trod enc Tryz.prog W base sp held fuel 39 cs = some x) : ∃ y : S39, cs = [.string y.f0, .string y.f1, .string y.f2, .string y.f3] ∧ x.1 = .agg [str y.f0, str y.f1, str y.f2, str y.f3] := by
  obtain ⟨xs, k, rfl, rfl, hl, hxl, hf⟩ := DataW.trod_struct Tryz.underlying39 h
  rw [cells39] at hl
  have h0 := hf 0 _ rfl
  have h1 := hf 1 _ rfl
  have h2 := hf 2 _ rfl
  have h3 := hf 3 _ rfl
  match cs, hl, xs, hxl, h0, h1, h2, h3 with
  | [c0, c1, c2, c3], _, [y0, y1, y2, y3], _, h0, h1, h2, h3 =>
    simp only [cells9, List.drop_zero, List.take_succ_cons, List.take_zero, List.getElem?_cons_zero, List.drop_succ_cons, List.getElem?_cons_succ] at h0 h1 h2 h3
    obtain ⟨s0, e0, r0, _⟩ := DataW.trod_string Tryz.underlying9 h0
    obtain ⟨s1, e1, r1, _⟩ := DataW.trod_string Tryz.underlying9 h1
    obtain ⟨s2, e2, r2, _⟩ := DataW.trod_string Tryz.underlying9 h2
    obtain ⟨s3, e3, r3, _⟩ := DataW.trod_string Tryz.underlying9 h3
    injection e0 with e0
    injection e1 with e1
    injection e2 with e2
    injection e3 with e3
    subst e0 e1 e2 e3 r0 r1 r2 r3
    exact ⟨⟨s0, s1, s2, s3⟩, rfl, rfl⟩
set_option maxRecDepth 100000 in
theorem open26 (h : DataW.trod enc Tryz.prog W base sp held fuel 26 cs = some x) : ∃ b1 b2 b3 : Bool, cs = [.bool b1, .bool b2, .bool b3] := by
  obtain ⟨xs, k, rfl, rfl, hl, hxl, hf⟩ := DataW.trod_struct Tryz.underlying26 h
  rw [cells26] at hl
  have h0 := hf 0 _ rfl
  have h1 := hf 1 _ rfl
  have h2 := hf 2 _ rfl
  match cs, hl, xs, hxl, h0, h1, h2 with
  | [c0, c1, c2], _, [y0, y1, y2], _, h0, h1, h2 =>
    simp only [cells4, List.drop_zero, List.take_succ_cons, List.take_zero, List.getElem?_cons_zero, List.drop_succ_cons, List.getElem?_cons_succ] at h0 h1 h2
    obtain ⟨s0, e0, r0⟩ := DataW.trod_bool Tryz.underlying4 h0
    obtain ⟨s1, e1, r1⟩ := DataW.trod_bool Tryz.underlying4 h1
    obtain ⟨s2, e2, r2⟩ := DataW.trod_bool Tryz.underlying4 h2
    injection e0 with e0
    injection e1 with e1
    injection e2 with e2
    subst e0 e1 e2
    exact ⟨s0, s1, s2, rfl⟩
def enc39 (y : S39) : DataW H := .agg [str y.f0, str y.f1, str y.f2, str y.f3]
def dec39 : DataW H → S39
  | .agg [.lit (.string a), .lit (.string b), .lit (.string c), .lit (.string d)] => ⟨⟨a.toArray⟩, ⟨b.toArray⟩, ⟨c.toArray⟩, ⟨d.toArray⟩⟩
  | _ => z39
theorem dec_enc (y : S39) : dec39 (enc39 (H := H) y) = y := rfl
set_option maxRecDepth 100000 in
theorem open27 (h : DataW.trod enc Tryz.prog W base sp held fuel 27 cs = some x) :
    ∃ (A : Option Addr) (c : Nat) (l : List S39), cs = [.slice A l.length c] ∧ l.length ≤ c ∧ Kd.C k39 W A l.length l ∧ (l = [] ∨ ∃ spare, x.1 = .slice (l.map enc39) spare) := by
  rcases DataW.trod_slice Tryz.underlying27 h with ⟨rfl, _⟩ | ⟨a, len, cap, elems, rest, n, rfl, rfl, rfl, hb, hl, hm, hlen, hel, _, _⟩
  · exact ⟨none, 0, [], rfl, Nat.le_refl _, Kd.C_nil k39 W, .inl rfl⟩
  · have each : ∀ (i : Nat) (y : DataW H × List MemPlace), elems[i]? = some y → ∃ z : S39, y.1 = enc39 z ∧ ∀ j u, ([Value.string z.f0, .string z.f1, .string z.f2, .string z.f3] : List Value)[j]? = some u → W.cell? (a.add (i * 4 + j)) = some u := by
      intro i y hy
      have hi : i < len := by rw [← hlen]; exact (List.getElem?_eq_some_iff.1 hy).1
      have h1 := hel i hi
      rw [hy, cells39] at h1
      obtain ⟨cs1, hc1, ht1⟩ := Option.bind_eq_some_iff.1 h1
      obtain ⟨z, hz, hd⟩ := open39 ht1
      obtain ⟨_, hl1, hcell⟩ := World.cells?_some hc1
      refine ⟨z, hd, fun j u hu => ?_⟩
      rw [← hz] at hu
      have hj : j < 4 := by rw [← hl1]; exact (List.getElem?_eq_some_iff.1 hu).1
      have := hcell j hj
      rw [Addr.add_add] at this
      rw [this, hu]
    have hmap : elems.map (·.1) = (elems.map fun y => dec39 y.1).map enc39 := by
      rw [List.map_map]
      apply List.map_congr_left
      intro y hy
      obtain ⟨i, hi⟩ := List.getElem?_of_mem hy
      obtain ⟨z, hz, _⟩ := each i y hi
      show y.1 = enc39 (dec39 y.1)
      rw [hz, dec_enc]
    have hll : (elems.map fun y => dec39 y.1).length = len := by rw [List.length_map, hlen]
    refine ⟨some a, cap, elems.map fun y => dec39 y.1, by rw [hll], by omega, ⟨rfl, by rw [hll]; unfold maxLen at hm; omega, fun _ => ⟨a, rfl, fun j p hp => ?_⟩⟩, .inr ⟨_, by rw [hmap]⟩⟩
    rw [List.getElem?_map] at hp
    obtain ⟨y, hy, rfl⟩ := Option.map_eq_some_iff.1 hp
    obtain ⟨z, hz, hc⟩ := each j y hy
    refine ⟨_, rfl, k39_mk W _, fun i u hu => hc i u ?_⟩
    rw [hz, dec_enc] at hu
    exact hu
set_option maxRecDepth 100000 in
theorem open31 (h : DataW.trod enc Tryz.prog W base sp held fuel 31 cs = some x) :
    ∃ (b1 b2 b3 : Bool) (A : Option Addr) (c : Nat) (l : List S39) (e n v : ByteArray) (d0 d1 : DataW H), cs = [.bool b1, .bool b2, .bool b3, .slice A l.length c, .string e, .string n, .string v] ∧ l.length ≤ c ∧ Kd.C k39 W A l.length l ∧
      x.1 = .agg [d0, d1, str e, .agg [str n, str v]] ∧ (l = [] ∨ ∃ spare, d1 = .slice (l.map enc39) spare) := by
  obtain ⟨xs, k, rfl, rfl, hl, hxl, hf⟩ := DataW.trod_struct Tryz.underlying31 h
  rw [cells31] at hl
  have h0 := hf 0 _ rfl
  have h1 := hf 1 _ rfl
  have h2 := hf 2 _ rfl
  have h3 := hf 3 _ rfl
  match cs, hl, xs, hxl, h0, h1, h2, h3 with
  | [c0, c1, c2, c3, c4, c5, c6], _, [y0, y1, y2, y3], _, h0, h1, h2, h3 =>
    simp only [cells9, cells26, cells27, cells29, List.drop_zero, List.take_succ_cons, List.take_zero, List.getElem?_cons_zero, List.drop_succ_cons, List.getElem?_cons_succ] at h0 h1 h2 h3
    obtain ⟨b1, b2, b3, e0⟩ := open26 h0
    obtain ⟨A, c, l, e1, hlc, hC, hd⟩ := open27 h1
    obtain ⟨s2, e2, r2, _⟩ := DataW.trod_string Tryz.underlying9 h2
    obtain ⟨n, v, e3, r3⟩ := open29 h3
    injection e0 with p0 e0
    injection e0 with p1 e0
    injection e0 with p2 _
    injection e1 with e1
    injection e2 with e2
    injection e3 with p5 e3
    injection e3 with p6 _
    subst p0 p1 p2 e1 e2 p5 p6 r2
    refine ⟨b1, b2, b3, A, c, l, s2, n, v, y0.1, y1.1, rfl, hlc, hC, ?_, hd⟩
    rw [← r3]
    rfl
end
end Go.Proofs.YtchooidhieaphaaGreatDoor
