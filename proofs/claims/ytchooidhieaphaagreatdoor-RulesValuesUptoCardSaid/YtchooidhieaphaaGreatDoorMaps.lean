/- A map literal with text keys holds what was put into it, at the last of equal keys. -/
/-
  A map with string keys that the call itself makes, whatever its values are: it holds a list of keys with values, the last one of a key counts. For map literals. Over any program.
-/
import Derived.Maps.OwnSet
import Derived.WalkKit
set_option linter.unusedVariables false
set_option linter.unusedSimpArgs false
namespace Go.Proofs.YtchooidhieaphaaGreatDoor
open Go Go.RowKit Go.Maps
def heldR (v : Value) : Option (DataW Value × List MemPlace) := some (.held v, [])
def putAll (m : DataW Value) (L : List (List UInt8 × Value)) : DataW Value := L.foldl (fun m p => m.put (.string p.1) (.held p.2)) m
def lookL (L : List (List UInt8 × Value)) (k : List UInt8) (z : Value) : Value := L.foldl (fun z p => if k = p.1 then p.2 else z) z
def hasL (L : List (List UInt8 × Value)) (k : List UInt8) : Bool := L.any (fun p => decide (k = p.1))
theorem putAll_isMap : ∀ (L : List (List UInt8 × Value)) (m : DataW Value), IsMap m → IsMap (putAll m L)
  | [], _, h => h
  | p :: L, m, h => putAll_isMap L _ (h.put _ _)
theorem putAll_at (k : List UInt8) : ∀ (L : List (List UInt8 × Value)) (m : DataW Value) (z a : Value), IsMap m → m.atKey (.string k) (.held z) = .held a → (putAll m L).atKey (.string k) (.held z) = .held (lookL L k a)
  | [], _, _, _, _, h => h
  | p :: L, m, z, a, hm, h => by
    refine putAll_at k L _ z _ (hm.put _ _) ?_
    show (m.put (.string p.1) (.held p.2)).atKey (.string k) (.held z) = .held (if k = p.1 then p.2 else a)
    by_cases e : k = p.1
    · rw [if_pos e, e]
      exact atKey_put_same hm (by simp [WideAt.IsKeyLit]) _ _
    · rw [if_neg e, atKey_put_other (fun x => e (by injection x))]
      exact h
theorem putAll_has (k : List UInt8) : ∀ (L : List (List UInt8 × Value)) (m : DataW Value), IsMap m → has (putAll m L) (.string k) = (has m (.string k) || hasL L k)
  | [], m, _ => by simp [putAll, hasL]
  | p :: L, m, hm => by
    have ih := putAll_has k L _ (hm.put (.string p.1) (.held p.2))
    show has (putAll (m.put (.string p.1) (.held p.2)) L) (.string k) = _
    rw [ih]
    by_cases e : k = p.1
    · subst e
      rw [has_put_same hm (by simp [WideAt.IsKeyLit])]
      simp [hasL]
    · rw [has_put_other (fun x => e (by injection x))]
      simp [hasL, e]
/-- Block b is a map that holds just these keys and values. -/
def ownsL (P : Program) (k : TypeId) (w : World) (b : Nat) (L : List (List UInt8 × Value)) : Prop := w.ownsMap P k heldR b L.length (putAll (.map []) L)
variable {P : Program} {k e t : TypeId} {w : World} {b : Nat} {L : List (List UInt8 × Value)}
theorem ownsL_made (w : World) (P : Program) (k : TypeId) : ownsL P k (w.alloc (.map #[] 0)) w.heap.size [] := World.ownsMap_made w P k heldR
theorem ownsL_look (h : ownsL P k w b L) (K : Keyed P k) (ht : P.underlying t = some (.map k e)) {z : Value} (hz : (zeroValue e).run P w = .ok z w) {key : Value} {kl : List UInt8} (hkey : keyOf P k key = some (.string kl)) :
    (Instr.lookup t (.map (some b)) key false).run P w = .ok (lookL L kl z) w := by
  obtain ⟨v, ps, hrun, hv⟩ := World.ownsMap.lookup h K ht hz (zd := .held z) (zp := []) rfl hkey
  rw [putAll_at kl L _ z z isMap_empty rfl] at hv
  simp only [heldR, Option.some.injEq, Prod.mk.injEq, DataW.held.injEq] at hv
  rw [hrun, hv.1]
theorem ownsL_look_ok (h : ownsL P k w b L) (K : Keyed P k) (ht : P.underlying t = some (.map k e)) {z : Value} (hz : (zeroValue e).run P w = .ok z w) {key : Value} {kl : List UInt8} (hkey : keyOf P k key = some (.string kl)) :
    (Instr.lookup t (.map (some b)) key true).run P w = .ok (.tuple #[lookL L kl z, .bool (hasL L kl)]) w := by
  obtain ⟨v, ps, hrun, hv⟩ := World.ownsMap.look_ok h K ht hz (zd := .held z) (zp := []) rfl hkey
  rw [putAll_at kl L _ z z isMap_empty rfl] at hv
  simp only [heldR, Option.some.injEq, Prod.mk.injEq, DataW.held.injEq] at hv
  rw [hrun, hv.1, putAll_has kl L _ isMap_empty]
  rfl
/-- An entry of a map literal, at the operation. -/
theorem wpList_insert_L {ops : Array Oper} {rest : List Oper} {o : Oper} {a : Act} {Q : Exit → Act → World → Prop}
    (hg : o.guard = none) (m x v : Operand) (t : TypeId) (hop : o.op = Op.insert t m x v) (k e : TypeId) (K : Keyed P k) (ht : P.underlying t = some (.map k e))
    (b : Nat) (L : List (List UInt8 × Value)) (hm : a.eval m = .map (some b)) (hown : ownsL P k w b L) (hn : L.length < maxLen) (key val : Value) (kl : List UInt8) (hx : a.eval x = key) (hv : a.eval v = val) (hkey : keyOf P k key = some (.string kl))
    (hK : ∀ w', ownsL P k w' b (L ++ [(kl, val)]) → w.grownBy w' (some b) → wpList P ops Q rest (a.put o.dst undef) w') :
    wpList P ops Q (o :: rest) a w := by
  refine wpList_plain hg fun K' hK' => ?_
  obtain ⟨w', hrun, r1, r2⟩ := World.ownsMap.update hown K ht hn (d := .held val) (ps := []) hkey rfl
  unfold Oper.wp
  simp [execOp, hop, hm, hx, hv, hrun, Result.andThen]
  refine hK' _ _ (hK w' ?_ r2)
  unfold ownsL putAll
  rw [List.length_append, List.foldl_append]
  exact r1
end Go.Proofs.YtchooidhieaphaaGreatDoor
