/- For every case (a policy, the parts, an element's name, an attribute) muslinlaw18.RulesValues returns true, and the case reads behind the call as it read before. Conditions: the case holds at most 1048576 values and letters; the package variables that the row lists begin as the program's text lays them (the card ties them). -/
import Derived.Test.YtchooidhieaphaaGreatDoorCards
import Derived.Test.YtchooidhieaphaaGreatDoorTie
import Derived.Test.YtchooidhieaphaaGreatDoorCaseArg
import Derived.Test.YtchooidhieaphaaGreatDoorRulesValues
import Derived.Carry
import Derived.OpenShut
import Derived.Deep.DeepHandedRow
import Derived.SevenTiedAt
set_option linter.unusedVariables false
namespace Go.Proofs.YtchooidhieaphaaGreatDoor.valuesCard
open Go.ChangeShapes Go.WideShapes Go.ChangeAt Go.RowKit PRulesValues
open Go.ChangeMaps (open_string shut_string)
theorem bulk_mem {H : Type} {d : DataW H} : ∀ {l : List (DataW H)}, d ∈ l → Rows.uptoBulk d ≤ Rows.uptoBulkAll l
  | x :: r, h => by
    simp only [Rows.uptoBulkAll]
    cases List.mem_cons.1 h with
    | inl e => subst e; omega
    | inr e => have := bulk_mem e; omega
theorem bulk_one {H : Type} (y : S39) : y.f0.size + y.f1.size + y.f2.size + y.f3.size + 1 ≤ Rows.uptoBulk (enc39 (H := H) y) := by
  simp only [enc39, str, Rows.uptoBulk, Rows.uptoBulkAll]
  rw [Lib.size_eq, Lib.size_eq, Lib.size_eq, Lib.size_eq]
  omega
theorem bulk_len {H : Type} : ∀ (l : List S39), l.length ≤ Rows.uptoBulkAll (l.map (enc39 (H := H)))
  | [] => Nat.zero_le _
  | y :: l => by
    have h1 := bulk_one (H := H) y
    have h2 := bulk_len (H := H) l
    simp only [List.map_cons, Rows.uptoBulkAll, List.length_cons]
    omega
theorem laidOut : laidOutB Tryz.prog = true := by kernel_rfl
theorem readable31 : Tryz.prog.readableRec 31 = true := by kernel_rfl
theorem row31 : 31 < Tryz.prog.types.size := of_decide_eq_true (by kernel_rfl)
set_option maxRecDepth 100000 in
theorem contract (H : Type) (enc : TypeId × Value → H) (W : World) (base : Nat) (args : Array Value) (ds gs : List (DataW H)) (before : List MemPlace)
    (hval : ∀ (j : Nat) t v, Tryz.f4.params[j]? = some t → args[j]? = some v → Value.okWide Tryz.prog W .any base t v)
    (hW : DataW.Whole enc Tryz.prog Tryz.f4.params.toList Rows.rulesValuesSpec.vars false W args.toList ds gs before) (hcond : Rows.uptoSmall H (ds ++ gs) = true)
    (hS : W.ShapedOpen Tryz.prog) (hL : laidMetH Tryz.prog laidL W) :
    Calls Tryz.prog 4 args W fun e W' => ∃ v, e = .returned v ∧ Rows.rulesValuesSpec.post enc Tryz.prog Tryz.f4 false true false false W args v W' := by
  have hW' := hW
  have hlt := hW.lt
  obtain ⟨p, q, hA0, hV, rfl, hfz, hnd⟩ := hW
  have hA : DataW.TrodAll enc Tryz.prog W 0 (fun _ => true) true Tryz.f4.params.toList args.toList ds p := hA0
  rw [Tryz.params4] at hA hval
  obtain ⟨v0, d0, rfl, rfl, h0⟩ := trodAll_one hA
  obtain ⟨rfl, rfl⟩ := trodVars_none hV
  obtain ⟨cs, rfl, hcs⟩ := okWide_struct Tryz.underlying31 (hval 0 31 v0 rfl rfl)
  have h0' := h0
  obtain ⟨fuel, hf⟩ := h0
  obtain ⟨b1, b2, b3, A, c, l, e, n, v, e0, e1, hcells, hlc, hC, hd, hsl⟩ := open31 hf
  obtain ⟨cl⟩ := cs
  have hcl : cl = [.bool b1, .bool b2, .bool b3, .slice A l.length c, .string e, .string n, .string v] := hcells
  subst hcl
  clear hA0 hcells
  have hbulk := of_decide_eq_true hcond
  have hd0 : d0 = .agg [e0, e1, str e, .agg [str n, str v]] := hd
  rw [hd0] at hbulk
  simp only [List.append_nil, Rows.uptoBulkAll, Rows.uptoBulk, str] at hbulk
  have hll : l.length ≤ 1048576 := by
    rcases hsl with rfl | ⟨spare, rfl⟩
    · exact Nat.zero_le _
    · have := bulk_len (H := H) l
      simp only [Rows.uptoBulk] at hbulk
      omega
  have hls : ∀ x ∈ l, x.f0.size + x.f1.size + x.f2.size + x.f3.size ≤ 1048576 := by
    intro x hx
    rcases hsl with rfl | ⟨spare, rfl⟩
    · cases hx
    · have h1 := bulk_one (H := H) x
      have h2 := bulk_mem (List.mem_map_of_mem (f := enc39 (H := H)) hx)
      simp only [Rows.uptoBulk] at hbulk
      omega
  have he : e.size ≤ 1048576 := by rw [Lib.size_eq]; omega
  have hn : n.size ≤ 1048576 := by rw [Lib.size_eq]; omega
  have hv : v.size ≤ 1048576 := by rw [Lib.size_eq]; omega
  simp only [List.append_nil] at hW' hlt
  refine (values_case b1 b2 b3 A c l e n v W (good_of hS (laidL_plain W hL)) he hn hv hC hlc hll hls).mono fun en W' ⟨he, hb⟩ => ?_
  subst he
  exact ⟨_, rfl, _, _, _, [], _, [], hW', trodAll_mk1 (shut_bool Tryz.underlying4 _), trodAll_mk1 (hb.trod laidOut readable31 row31 h0' hlt), rfl, hb.frame _, fun h => by cases h⟩
theorem witness_at {H : Type} {enc : TypeId × Value → H} {C : Checked} {os : Os} {f : FuncId} {fn : Func} {s : OpenSpec} {conds : List PathCond} {apart : Bool} {laid : List (String × DataW Unit)} (w0 : World) (args : Array Value) (hos : w0.os = os)
    (hsh : (w0.forCall (fun _ _ => 0) ⟨#[], args, []⟩).Shaped C.prog)
    (hok : Input.okWideB C.prog (w0.forCall (fun _ _ => 0) ⟨#[], args, []⟩) f ⟨#[], args, []⟩ = true)
    (hrow : s.preRow enc C.prog fn conds apart laid (w0.forCall (fun _ _ => 0) ⟨#[], args, []⟩).memory args) :
    ∃ (w : World) (tape : Tape) (i : Input), w.os = os ∧ (w.forCall tape i).Shaped C.prog ∧ i.vars = [] ∧ Input.okWide C.prog (w.forCall tape i) .any w.heap.size f i ∧
      s.preRow enc C.prog fn conds apart laid (w.forCall tape i).memory i.args ∧ ({} : Assume).holds C.prog (lone (Frame.enter C.prog f i.args .normal) [] (w.forCall tape i)) :=
  ⟨w0, fun _ _ => 0, ⟨#[], args, []⟩, hos, hsh, (Input.okWide_of_okWideB (base := 0) hok).1, (Input.okWide_of_okWideB hok).2, hrow, by
    simp only [Assume.holds]
    exact ⟨by simp, fun h => by simp at h, by simp, by simp, by simp⟩⟩
/-- The witness: a case that holds nothing. -/
def none0 : Value := .agg #[.bool false, .bool false, .bool false, .slice none 0 0, .string ⟨#[]⟩, .string ⟨#[]⟩, .string ⟨#[]⟩]
theorem reads (os : Os) {H : Type} (enc : TypeId × Value → H) : ∃ places, DataW.whole enc Tryz.prog ((w0 os).forCall (fun _ _ => 0) ⟨#[], #[none0], []⟩).memory Tryz.f4.params.toList Rows.rulesValuesSpec.vars false #[none0].toList 8 = some ([.agg [.agg [.lit (.bool false), .lit (.bool false), .lit (.bool false)], .nil, .lit (.string []), .agg [.lit (.string []), .lit (.string [])]]], [], places) :=
  ⟨[], by kernel_rfl⟩
set_option maxRecDepth 100000 in
theorem liftedUpto (os : Os) (started : os.Started) (H : Type) (enc : TypeId × Value → H) (F : Stop.Interp) :
    ReturnsInHanded {} Tryz.checked os 4 .any ((Rows.OpenSpec.upto Rows.rulesValuesSpec).preRow enc Tryz.prog Tryz.f4 Rows.rulesValuesUptoRow.domain false Rows.rulesValuesUptoRow.laid) (((Rows.OpenSpec.upto Rows.rulesValuesSpec).at F).post enc Tryz.prog Tryz.f4 false true false false) := by
  obtain ⟨places, hx⟩ := reads os enc
  refine returnsInHanded_of_row (C := Tryz.checked) (s := Rows.OpenSpec.upto Rows.rulesValuesSpec) own started (by kernel_rfl) Tryz.func4
    (witness_at (w0 os) #[none0] (World.laidAll_os _ _ _) (w0_shaped os _) (by kernel_rfl)
      (OpenSpec.preRow_of_cond 8 hx (by kernel_rfl) (fun k hk => by cases hk; kernel_rfl) (by kernel_rfl) (w0_laidH os _))) ?_
  intro W base args ds gs before hval hW _ hcond _ hL hS _
  exact contract H enc W base args ds gs before hval hW (hcond _ rfl) hS hL
theorem saidUpto : Rows.RulesValuesUptoSaid :=
  OpenClaim.holds_of_cond 4 Tryz.f4 rfl rfl rfl rfl rfl rfl rfl ⟨rfl, rfl, rfl, rfl, rfl⟩ rfl rfl rfl rfl rfl (by kernel_rfl) Tryz.func4 (by kernel_rfl)
    (of_decide_eq_true (by kernel_rfl)) (by unfold Func.isWrapper; first | (rw [if_pos (by decide +kernel)]; kernel_rfl) | (rw [if_neg (by decide +kernel)]; exact ⟨rfl, rfl⟩))
    (fun os started H enc _ F => by rw [OpenClaim.pre_eq_preRow]; exact liftedUpto os started H enc F)
theorem plain (f : FuncId) (fn : Func) (hf : Tryz.pinned.checked.prog.funcNamed "muslin/muslinlaw18.RulesValues" = some f) (hfn : Tryz.pinned.checked.prog.funcs[f]? = some fn) :
    true = Tryz.pinned.checked.prog.looks [] ∧ ∀ (j : Nat) t, fn.params[j]? = some t → Tryz.pinned.checked.prog.wantsStandIn t = false := by
  obtain rfl : f = 4 := Option.some.inj ((show Tryz.prog.funcNamed "muslin/muslinlaw18.RulesValues" = some 4 by kernel_rfl).symm.trans hf) |>.symm
  obtain rfl : fn = Tryz.f4 := (Option.some.inj (Tryz.func4.symm.trans hfn)).symm
  refine ⟨by kernel_rfl, fun j t ht => ?_⟩
  rw [Tryz.params4] at ht
  have hm : t ∈ [31] := by simpa using Array.mem_of_getElem? ht
  have hall : ([31].all fun u => !Tryz.prog.wantsStandIn u) = true := by kernel_rfl
  exact (show Tryz.prog.wantsStandIn t = false by simpa using List.all_eq_true.1 hall t hm)
/-- THE SECOND FORM's CARD. -/
theorem cardUpto : Rows.RulesValuesUptoCardSaid :=
  Claim7.holds_tied_plain_at .later [] _ _ _ _ saidUpto (fun _ h => by cases h) (by kernel_rfl) (fun _ h => by cases h) rulesValuesUpto_row_tie rfl ⟨rfl, rfl⟩ (by kernel_rfl) rfl plain (by kernel_rfl)
end Go.Proofs.YtchooidhieaphaaGreatDoor.valuesCard
