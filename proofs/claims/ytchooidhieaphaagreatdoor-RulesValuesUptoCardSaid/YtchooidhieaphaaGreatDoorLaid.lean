/- What the row lists gives what the walks ask of the package variables; a world that fits. -/
import Derived.Test.YtchooidhieaphaaGreatDoorRows
import Derived.Test.YtchooidhieaphaaGreatDoorBase
import Derived.Test.YtchooidhieaphaaGreatDoorShelf
import Derived.WalkKit
import Derived.ProofKit
import Derived.Lay
import Derived.LaidOnce
import Derived.SliceStrings
import Derived.Lib.LaidU8
import Derived.Lib.LaidU8T
import Derived.Stop.LaidErr
import Derived.Shelf.Vars
set_option linter.unusedVariables false
namespace Go.Proofs.YtchooidhieaphaaGreatDoor
open Go.ChangeShapes Go.WideShapes Go.ChangeAt Go.RowKit Go.Shelf Go.Lib
def laidL : List (String × DataW Unit) := Rows.rulesNamesUptoRow.laid
theorem own : ownKnob Tryz.prog.godebug = none := by kernel_rfl
theorem yPow : (Tryz.prog.globals[4]?).map (·.type) = some 159 := by kernel_rfl
theorem yNames : (Tryz.prog.globals[0]?).map (·.type) = some 73 := by kernel_rfl
theorem yErrS : (Tryz.prog.globals[2]?).map (·.type) = some 56 := by kernel_rfl
theorem yErrR : (Tryz.prog.globals[3]?).map (·.type) = some 56 := by kernel_rfl
theorem cells9 : Tryz.prog.cellsOf 9 = 1 := by kernel_rfl
theorem cells159 : Tryz.prog.cellsOf 159 = 20 := by kernel_rfl
theorem cells157 : Tryz.prog.cellsOf 157 = 1 := by kernel_rfl
theorem star : "*" ++ "errors.errorString" = "*errors.errorString" := by decide
theorem row155 (u : TypeId) (h : Tryz.prog.typeName? 3 u = some "*errors.errorString") : u = 155 :=
  typeName_ptr_named (nm := "errors.errorString") (by rw [star]; kernel_rfl) (by kernel_rfl) (by decide) u (by rw [star]; exact h)
theorem laidL_plain (w : World) (h : laidMetH Tryz.prog laidL w) : laidMet Tryz.prog laidL w := by
  rwa [MakeChecks.laidMetH_plain _ _ _ (by kernel_rfl)] at h
theorem cells124 : Tryz.prog.cellsOf 124 = 1 := by kernel_rfl
def u8ren : Ren := ⟨fun n => n, fun | 5 => 5 | 119 => 144 | 139 => 182 | 138 => 181 | n => n, fun | 3 => 5 | 4 => 6 | n => n⟩
theorem u8types : U8Types Tryz.prog u8ren := ⟨Tryz.underlying5, Tryz.underlying144, Tryz.underlying181, Tryz.underlying182⟩
theorem u8extra : U8Extra Tryz.prog u8ren := ⟨by kernel_rfl, by kernel_rfl, by kernel_rfl, by kernel_rfl, by kernel_rfl, by kernel_rfl, by kernel_rfl⟩
theorem firstEq : Rows.laid_unicode_utf8_first = firstData := by kernel_rfl
theorem acceptEq : (Rows.laid_unicode_utf8_acceptRanges : DataW Unit) = acceptData := by kernel_rfl
theorem powEq : (Rows.laid_internal_strconv_uint64pow10 : DataW Unit) = tabData .u64 Lib.pow10Tab := by kernel_rfl
theorem namesEq : (Rows.laid_muslin_css_names : DataW Unit) = .slice (cssNames.map fun x => .lit (.string x)) [] := by kernel_rfl
/-- What the row's list and the world's shape give. -/
theorem good_of {W : World} (hS : W.ShapedOpen Tryz.prog) (hL : laidMet Tryz.prog laidL W) : Good W where
  maxlen := cell_of_shapedOpen_int (zero := #[.int .i64 0]) (t := 3) hS (of_decide_eq_true (by kernel_rfl)) (by kernel_rfl) rfl (by kernel_rfl) (by kernel_rfl) Tryz.underlying3
  errS := by
    obtain ⟨a, s, hv, _⟩ := laid_sentinel hL.tail.tail.tail.tail.tail gErrS yErrS Tryz.underlying56 row155 Tryz.underlying155 Tryz.underlying157 rfl rfl Tryz.underlying9 cells157 cells9
    exact ⟨_, _, hv⟩
  errR := by
    obtain ⟨a, s, hv, _⟩ := laid_sentinel hL.tail.tail.tail.tail gErrR yErrR Tryz.underlying56 row155 Tryz.underlying155 Tryz.underlying157 rfl rfl Tryz.underlying9 cells157 cells9
    exact ⟨_, _, hv⟩
  pow10 := by
    have h := hL.tail.tail
    exact Lib.tabIs_of_head gPow yPow Tryz.underlying159 Tryz.underlying124 cells124 cells159 (powEq ▸ h)
  u8 := utf8Tabs_of_readsT u8types u8extra (firstEq ▸ Lib.laidMet.reads hL (.tail _ (.tail _ (.tail _ (.tail _ (.tail _ (.tail _ (.tail _ (.head _)))))))))
    (acceptEq ▸ Lib.laidMet.reads hL (.tail _ (.tail _ (.tail _ (.head _)))))
  names := by
    obtain ⟨g, t, cs, fuel, p, hg, hty, hvar, hd⟩ := Lib.laidMet.reads (n := "muslin/css.names") (d := Rows.laid_muslin_css_names) hL (.tail _ (.tail _ (.tail _ (.tail _ (.tail _ (.tail _ (.head _)))))))
    obtain rfl := Option.some.inj (gNames.symm.trans hg)
    obtain rfl := Option.some.inj (yNames.symm.trans hty)
    rw [namesEq] at hd
    rcases open_strings Tryz.underlying73 Tryz.underlying9 cells9 hd with ⟨_, hx⟩ | ⟨a, len, cap, ss, hcs, _, hl, hm, hz, hx, hcell, _⟩
    · cases hx
    · injection hx with hx _
      injection hx with hx _
      have hx : (cssNames.map fun x => (DataW.lit (.string x) : DataW Unit)) = strs (ss.take len) := hx
      have h38 : (cssNames.map fun x => (DataW.lit (.string x) : DataW Unit)).length = 38 := rfl
      simp only [if_true] at hz
      have hlen : len = 38 := by
        rw [hx] at h38
        simp [strs] at h38
        omega
      subst hlen
      obtain ⟨cl⟩ := cs
      simp only at hcs
      subst hcs
      obtain ⟨b, off, spot⟩ := a
      have hspot : spot = none := by simpa [Addr.add] using World.cell?_spot (hcell 0 (by omega))
      subst hspot
      refine ⟨b, off, cap, by simpa using World.var?_cell gNames hvar 0, fun i hi => ?_⟩
      have hc := hcell i (by omega)
      rw [Addr.add_lit] at hc
      rw [hc]
      have hi2 : (cssNames.map fun x => (DataW.lit (.string x) : DataW Unit))[i]? = (strs (ss.take 38))[i]? := by rw [hx]
      have hl1 : i < cssNames.length := hi
      have hl2 : i < ss.length := by omega
      simp [strs, hi, hl1, hl2] at hi2
      simp [List.getD_eq_getElem?_getD, hl1, hl2, hi2]
/-- THE WITNESS's world: the listed variables laid. -/
noncomputable def w0 (os : Os) : World := World.laidAll Tryz.prog os laidL
theorem w0_shaped (os : Os) (args : Array Value) : ((w0 os).forCall (fun _ _ => 0) ⟨#[], args, []⟩).Shaped Tryz.prog := World.shaped_of_ZipB (by kernel_rfl) (by kernel_rfl)
theorem w0_laid (os : Os) (args : Array Value) : laidMet Tryz.prog laidL ((w0 os).forCall (fun _ _ => 0) ⟨#[], args, []⟩).memory := laidMet_laidAll _ (by kernel_rfl) (by kernel_rfl)
theorem w0_laidH (os : Os) (args : Array Value) : laidMetH Tryz.prog laidL ((w0 os).forCall (fun _ _ => 0) ⟨#[], args, []⟩).memory := by
  rw [MakeChecks.laidMetH_plain _ _ _ (by kernel_rfl)]
  exact w0_laid os args
end Go.Proofs.YtchooidhieaphaaGreatDoor
