/- What the package variables hold (Good), and that a call which only adds memory keeps it. -/
/-
  What is known of the world throughout: the package-level variables hold what the card lists; carried over whatever leaves old memory as it was.
-/
import Derived.Test.YtchooidhieaphaaGreatDoorProg
import Derived.WalkKit
import Derived.WalkLawsBesides
import Derived.WalkSpells
import Derived.Lib.Hide
import Derived.Lib.LaidTab
import Derived.Lib.IndexMore
import Derived.Shelf.Unicode.DecodeSlow
import Derived.Shelf.Strconv.Itoa3
namespace Go.Proofs.YtchooidhieaphaaGreatDoor
open Go.RowKit
/-- css.names, as bytes. -/
def cssNames : List (List UInt8) := [[98, 97, 99, 107, 103, 114, 111, 117, 110, 100, 45, 99, 111, 108, 111, 114], [98, 111, 114, 100, 101, 114], [98, 111, 114, 100, 101, 114, 45, 98, 111, 116, 116, 111, 109], [98, 111, 114, 100, 101, 114, 45, 99, 111, 108, 108, 97, 112, 115, 101], [98, 111, 114, 100, 101, 114, 45, 99, 111, 108, 111, 114], [98, 111, 114, 100, 101, 114, 45, 108, 101, 102, 116], [98, 111, 114, 100, 101, 114, 45, 114, 105, 103, 104, 116], [98, 111, 114, 100, 101, 114, 45, 115, 112, 97, 99, 105, 110, 103], [98, 111, 114, 100, 101, 114, 45, 115, 116, 121, 108, 101], [98, 111, 114, 100, 101, 114, 45, 116, 111, 112], [98, 111, 114, 100, 101, 114, 45, 119, 105, 100, 116, 104], [99, 111, 108, 111, 114], [100, 105, 114, 101, 99, 116, 105, 111, 110], [102, 111, 110, 116, 45, 115, 105, 122, 101], [102, 111, 110, 116, 45, 115, 116, 121, 108, 101], [102, 111, 110, 116, 45, 119, 101, 105, 103, 104, 116], [104, 101, 105, 103, 104, 116], [108, 101, 116, 116, 101, 114, 45, 115, 112, 97, 99, 105, 110, 103], [108, 105, 110, 101, 45, 104, 101, 105, 103, 104, 116], [108, 105, 115, 116, 45, 115, 116, 121, 108, 101, 45, 116, 121, 112, 101], [109, 97, 114, 103, 105, 110], [109, 97, 114, 103, 105, 110, 45, 98, 111, 116, 116, 111, 109], [109, 97, 114, 103, 105, 110, 45, 108, 101, 102, 116], [109, 97, 114, 103, 105, 110, 45, 114, 105, 103, 104, 116], [109, 97, 114, 103, 105, 110, 45, 116, 111, 112], [109, 97, 120, 45, 119, 105, 100, 116, 104], [112, 97, 100, 100, 105, 110, 103], [112, 97, 100, 100, 105, 110, 103, 45, 98, 111, 116, 116, 111, 109], [112, 97, 100, 100, 105, 110, 103, 45, 108, 101, 102, 116], [112, 97, 100, 100, 105, 110, 103, 45, 114, 105, 103, 104, 116], [112, 97, 100, 100, 105, 110, 103, 45, 116, 111, 112], [116, 101, 120, 116, 45, 97, 108, 105, 103, 110], [116, 101, 120, 116, 45, 100, 101, 99, 111, 114, 97, 116, 105, 111, 110], [116, 101, 120, 116, 45, 105, 110, 100, 101, 110, 116], [116, 101, 120, 116, 45, 116, 114, 97, 110, 115, 102, 111, 114, 109], [118, 101, 114, 116, 105, 99, 97, 108, 45, 97, 108, 105, 103, 110], [119, 104, 105, 116, 101, 45, 115, 112, 97, 99, 101], [119, 105, 100, 116, 104]]
/-- What the package-level variables hold. -/
structure Good (w : World) : Prop where
  maxlen : ∃ m, w.cell? ⟨1, 0, none⟩ = some (.int .i64 m)
  errS : ∃ t p, w.var? Tryz.prog "strconv.ErrSyntax" = some #[.iface t p]
  errR : ∃ t p, w.var? Tryz.prog "strconv.ErrRange" = some #[.iface t p]
  pow10 : Lib.TabIs Tryz.prog w "internal/strconv.uint64pow10" .u64 Lib.pow10Tab
  u8 : Lib.Utf8Tabs 5 6 w
  names : ∃ b o c, w.cell? ⟨0, 0, none⟩ = some (.slice (some ⟨b, o, none⟩) 38 c) ∧ ∀ i, i < 38 → w.cell? ⟨b, o + i, none⟩ = some (.string ⟨(cssNames.getD i []).toArray⟩)
theorem gErrS : Tryz.prog.globalNamed "strconv.ErrSyntax" = some 2 := by kernel_rfl
theorem gErrR : Tryz.prog.globalNamed "strconv.ErrRange" = some 3 := by kernel_rfl
theorem gPow : Tryz.prog.globalNamed "internal/strconv.uint64pow10" = some 4 := by kernel_rfl
theorem gNames : Tryz.prog.globalNamed "muslin/css.names" = some 0 := by kernel_rfl
theorem var_lt {w : World} {n : String} {g : Nat} {cs : Array Value} (hg : Tryz.prog.globalNamed n = some g) (h : w.var? Tryz.prog n = some cs) : g < w.heap.size := by
  unfold World.var? at h
  rw [hg] at h
  simp only [Option.bind_some] at h
  rcases Nat.lt_or_ge g w.heap.size with hlt | hge
  · exact hlt
  · rw [Array.getElem?_eq_none hge] at h
    simp at h
theorem cell_later {w wx : World} {a : Addr} {v : Value} (hb : Below w.heap.size w wx) (h : w.cell? a = some v) : wx.cell? a = some v := (hb.cell (World.block_lt_of_cell? _ _ h)).trans h
theorem Good.below {w w' : World} (h : Good w) (hb : Below w.heap.size w w') : Good w' where
  maxlen := by obtain ⟨m, hm⟩ := h.maxlen; exact ⟨m, cell_later hb hm⟩
  errS := by obtain ⟨t, p, hv⟩ := h.errS; exact ⟨t, p, var?_below hb gErrS (var_lt gErrS hv) hv⟩
  errR := by obtain ⟨t, p, hv⟩ := h.errR; exact ⟨t, p, var?_below hb gErrR (var_lt gErrR hv) hv⟩
  pow10 := var?_below hb gPow (var_lt gPow h.pow10) h.pow10
  u8 := Go.Proofs.Utf8Tabs_below h.u8 hb
  names := by
    obtain ⟨b, o, c, h0, hi⟩ := h.names
    exact ⟨b, o, c, cell_later hb h0, fun i hlt => cell_later hb (hi i hlt)⟩
theorem below_drewN' {B : Nat} {w W : World} (h : Below B w W) (n : Nat) : Below B w (W.drewN n) := ⟨h.os, h.tape, h.output, h.size, h.block⟩
/-- One step behind another, each from its own world's size on. -/
theorem below_then' {w w1 w2 : World} (h : Below w.heap.size w w1) (k : Below w1.heap.size w1 w2) : Below w.heap.size w w2 :=
  h.trans (k.mono h.size)
theorem tuple2 {a b c d : Value} (h1 : a = c) (h2 : b = d) : Ending.returned (.tuple #[a, b]) = Ending.returned (.tuple #[c, d]) := by rw [h1, h2]
theorem ret_str {a : ByteArray} {b : List UInt8} (h : a.data.toList = b) : Ending.returned (.string a) = .returned (.string ⟨b.toArray⟩) := by
  subst h
  simp
theorem ret_bool {a b : Bool} (h : a = b) : Ending.returned (.bool a) = .returned (.bool b) := by rw [h]
theorem ret_int {k : IntKind} {a b : Int} (h : a = b) : Ending.returned (.int k a) = .returned (.int k b) := by rw [h]
end Go.Proofs.YtchooidhieaphaaGreatDoor
