/- css.Clean returns what cssF says. Condition: texts below 2^32 - 96 bytes. -/
import Derived.Test.YtchooidhieaphaaGreatDoorCssEnd
import Derived.Test.YtchooidhieaphaaGreatDoorBase
import Derived.Test.YtchooidhieaphaaGreatDoorLinkAll
import Derived.Lib.SliceRun
set_option linter.unusedVariables false
set_option linter.unusedSimpArgs false
namespace Go.Proofs.YtchooidhieaphaaGreatDoor
open Go.RowKit Go.Proofs.YtchooidhieaphaaGreatDoorW.PrintWords
def quoteB (st : List UInt8) : Bool := st.head? == some 34 || st.head? == some 39
def popB (st : List UInt8) (c : UInt8) : Bool := match st with | [] => false | t :: _ => decide (c = t)
/-- Where a declaration ends: the place of the first ';' outside quotes and brackets. 'esc': the byte behind a backslash. -/
def endG : Bool → List UInt8 → List UInt8 → Nat
  | _, _, [] => 0
  | true, st, _ :: r => endG false st r + 1
  | false, st, c :: r =>
    if quoteB st = true ∧ c = 92 then endG true st r + 1
    else if popB st c = true then endG false st.tail r + 1
    else if quoteB st = true then endG false st r + 1
    else if c = 34 ∨ c = 39 then endG false (c :: st) r + 1
    else if c = 40 then endG false (41 :: st) r + 1
    else if c = 59 ∧ st = [] then 0
    else endG false st r + 1
def endF (l : List UInt8) : Nat := endG false [] l
theorem endG_le : ∀ (l : List UInt8) (e : Bool) (st : List UInt8), endG e st l ≤ l.length := by
  intro l
  induction l with
  | nil => intro e st; cases e <;> simp [endG]
  | cons c r ih =>
    intro e st
    cases e with
    | true => simp only [endG, List.length_cons]; have := ih false st; omega
    | false =>
      simp only [endG, List.length_cons]
      repeat' split
      all_goals first
        | (have := ih true st; omega)
        | (have := ih false st.tail; omega)
        | (have := ih false st; omega)
        | (have := ih false (c :: st); omega)
        | (have := ih false (41 :: st); omega)
        | omega
def stInts (st : List UInt8) : List Int := st.reverse.map fun c => (c.toNat : Int)
theorem stInts_cons (c : UInt8) (st : List UInt8) : stInts (c :: st) = stInts st ++ [(c.toNat : Int)] := by simp [stInts]
theorem stInts_len (st : List UInt8) : (stInts st).length = st.length := by simp [stInts]
theorem stInts_take (c : UInt8) (st : List UInt8) : (stInts (c :: st)).take st.length = stInts st := by
  rw [stInts_cons, ← stInts_len st, List.take_left']
  rfl
theorem stInts_rd (c : UInt8) (st : List UInt8) : rd (stInts (c :: st)) (st.length : Int) = (c.toNat : Int) := by
  rw [stInts_cons]
  unfold rd
  rw [Int.toNat_natCast, ← stInts_len st]
  simp
theorem wrap_in {i : Int} (h0 : 0 ≤ i) (h1 : i ≤ 140737488355328) : wrap64 i = i := by unfold wrap64; omega
theorem bt_drop (s : ByteArray) (i : Nat) (h : i < s.size) : ∃ c : UInt8, s.data.toList.drop i = c :: s.data.toList.drop (i + 1) ∧ bt s (i : Int) = (c.toNat : Int) := by
  refine ⟨s[i]'h, ?_, ?_⟩
  · rw [List.drop_eq_getElem_cons (by rw [← Lib.size_eq]; exact h)]
    rfl
  · rw [← bt_at s (i : Int) (by simpa using h)]
    simp
theorem u8_eq_int (a : UInt8) (n : Nat) (h : n < 256) : ((a.toNat : Int) = (n : Int)) ↔ a = UInt8.ofNat n := by
  constructor
  · intro he
    have : a.toNat = n := by omega
    rw [← this]; simp
  · intro he
    subst he
    simp [Nat.mod_eq_of_lt h]
theorem end_l0 (s : ByteArray) (hs : s.size < 4294967296) : ∀ (n : Nat) (st : List UInt8) (i k : Nat), s.size - i = n → i ≤ s.size → 6 * n + 6 ≤ k → st.length ≤ i → (∀ x ∈ st, x ≠ 0) →
    CssEnd.css_end.l0 k s (stInts st) (i : Int) = some ((i + endG false st (s.data.toList.drop i) : Nat) : Int) := by
  intro n
  induction n using Nat.strongRecOn with
  | _ n ih =>
  intro st i k hn hi hk hst hz
  obtain ⟨m, rfl⟩ : ∃ m, k = m + 6 := ⟨k - 6, by omega⟩
  by_cases hlt : i < s.size
  · obtain ⟨c, hd, hb⟩ := bt_drop s i hlt
    rw [hd]
    have hc : c.toNat < 256 := c.toNat_lt
    have w1 : wrap64 ((i : Int) + 1) = ((i + 1 : Nat) : Int) := by rw [wrap_in (by omega) (by omega)]; omega
    have w2 : wrap64 (((i + 1 : Nat) : Int) + 1) = ((i + 2 : Nat) : Int) := by rw [wrap_in (by omega) (by omega)]; omega
    have next : ∀ st', st'.length ≤ i + 1 → (∀ x ∈ st', x ≠ 0) → ∀ k', m ≤ k' → CssEnd.css_end.l0 k' s (stInts st') ((i + 1 : Nat) : Int) = some ((i + 1 + endG false st' (s.data.toList.drop (i + 1)) : Nat) : Int) :=
      fun st' h1 h2 k' hk' => ih (s.size - (i + 1)) (by omega) st' (i + 1) k' rfl (by omega) (by omega) h1 h2
    have skip : ∀ k', m ≤ k' → CssEnd.css_end.l0 k' s (stInts st) ((i + 2 : Nat) : Int) = some ((i + (endG true st (s.data.toList.drop (i + 1)) + 1) : Nat) : Int) := by
      intro k' hk'
      by_cases h2 : i + 1 < s.size
      · obtain ⟨c2, hd2, _⟩ := bt_drop s (i + 1) h2
        rw [hd2]
        have h3 := ih (s.size - (i + 2)) (by omega) st (i + 2) k' rfl (by omega) (by omega) (by omega) hz
        rw [h3]
        show some ((i + 2 + endG false st (s.data.toList.drop (i + 2)) : Nat) : Int) = some ((i + (endG false st (s.data.toList.drop (i + 2)) + 1 + 1) : Nat) : Int)
        generalize endG false st (s.data.toList.drop (i + 2)) = z
        congr 2
        omega
      · rw [List.drop_of_length_le (by rw [← Lib.size_eq]; omega)]
        obtain ⟨q, rfl⟩ : ∃ q, k' = q + 1 := ⟨k' - 1, by omega⟩
        simp only [CssEnd.css_end.l0, endG]
        rw [if_neg (by omega)]
        congr 1
        omega
    have hw : ∀ st', st'.length ≤ i + 1 → (∀ x ∈ st', x ≠ 0) → ∀ k', m ≤ k' → CssEnd.css_end.l0 k' s (stInts st') ((i + 1 : Nat) : Int) = some ((i + (endG false st' (s.data.toList.drop (i + 1)) + 1) : Nat) : Int) := by
      intro st' h1 h2 k' hk'
      rw [next st' h1 h2 k' hk']
      congr 2
      omega
    generalize hrest : s.data.toList.drop (i + 1) = rest at hw skip
    have hcc : ∀ n : Nat, n < 256 → ((c.toNat : Int) = (n : Int) ↔ c = UInt8.ofNat n) := fun n hn => u8_eq_int c n hn
    have c92 := hcc 92 (by decide)
    have c34 := hcc 34 (by decide)
    have c39 := hcc 39 (by decide)
    have c40 := hcc 40 (by decide)
    have c59 := hcc 59 (by decide)
    have l0lt : (0 : Int) ≤ (i : Int) := by omega
    have l1lt : (i : Int) < (s.size : Int) := by omega
    -- the last steps, alike for both
    have j5 : ∀ (h34 : ¬ quoteB st = true) (hpop : popB st c = false), CssEnd.css_end.j4 (m + 2) s (stInts st) (i : Int) (c.toNat : Int) false false =
        some ((i + (if c = 34 ∨ c = 39 then endG false (c :: st) rest + 1 else if c = 40 then endG false (41 :: st) rest + 1 else if c = 59 ∧ st = [] then 0 else endG false st rest + 1) : Nat) : Int) := by
      intro h34 hpop
      have hbig : (stInts st).length < 140737488355328 := by rw [stInts_len]; omega
      have push : ∀ x : UInt8, x ≠ 0 → CssEnd.css_end.l0 m s (stInts st ++ [(x.toNat : Int)]) ((i + 1 : Nat) : Int) = some ((i + (endG false (x :: st) rest + 1) : Nat) : Int) := by
        intro x hx
        rw [← stInts_cons]
        exact hw (x :: st) (by simp; omega) (by intro y hy; rcases List.mem_cons.1 hy with rfl | hy; exact hx; exact hz y hy) m (Nat.le_refl _)
      by_cases e1 : c = 34
      · subst e1
        simp only [CssEnd.css_end.j4, CssEnd.css_end.j5]
        simp [hbig]
        have := push 34 (by decide)
        rw [w1]
        simpa using this
      · by_cases e2 : c = 39
        · subst e2
          simp only [CssEnd.css_end.j4, CssEnd.css_end.j5]
          simp [hbig]
          have := push 39 (by decide)
          rw [w1]
          simpa using this
        · have n34 : ¬ (c.toNat : Int) = 34 := fun h => e1 (c34.1 h)
          have n39 : ¬ (c.toNat : Int) = 39 := fun h => e2 (c39.1 h)
          by_cases e3 : c = 40
          · subst e3
            simp only [CssEnd.css_end.j4, CssEnd.css_end.j5]
            simp [hbig]
            have := push 41 (by decide)
            rw [w1]
            simpa using this
          · have n40 : ¬ (c.toNat : Int) = 40 := fun h => e3 (c40.1 h)
            by_cases e4 : c = 59
            · subst e4
              simp only [CssEnd.css_end.j4, CssEnd.css_end.j5]
              cases st with
              | nil => simp [stInts]
              | cons a st' =>
                simp [stInts_len]
                rw [if_neg (by omega), w1]
                have := hw (a :: st') (by omega) hz m (Nat.le_refl _)
                simpa using this
            · have n59 : ¬ (c.toNat : Int) = 59 := fun h => e4 (c59.1 h)
              simp only [CssEnd.css_end.j4, CssEnd.css_end.j5]
              simp only [n34, n39, n40, n59, e1, e2, e3, e4, beq_iff_eq, if_false, false_or, false_and, Bool.false_eq_true]
              rw [w1]
              exact hw st (by omega) hz m (Nat.le_refl _)
    cases st with
    | nil =>
      have h0 := j5 (by simp [quoteB]) rfl
      have e1 : CssEnd.css_end.l0 (m + 6) s (stInts []) (i : Int) = CssEnd.css_end.j4 (m + 2) s (stInts []) (i : Int) (c.toNat : Int) false false := by
        simp only [CssEnd.css_end.l0, CssEnd.css_end.j1, CssEnd.css_end.j2, CssEnd.css_end.j3, hb]
        rw [if_pos l1lt, if_pos l0lt]
        simp [stInts]
      rw [e1, h0]
      simp [endG, quoteB, popB]
    | cons t st' =>
      have ht0 : t ≠ 0 := hz t List.mem_cons_self
      have htn : ¬ (t.toNat : Int) = 0 := fun h => ht0 ((u8_eq_int t 0 (by decide)).1 h)
      have hlen : wrap64 (((stInts (t :: st')).length : Int) - 1) = (st'.length : Int) := by
        rw [stInts_len, List.length_cons]
        rw [wrap_in (by omega) (by simp at hst; omega)]
        omega
      have hlen2 : (stInts (t :: st')).length = st'.length + 1 := by rw [stInts_len]; rfl
      have hq : quoteB (t :: st') = decide (t = 34 ∨ t = 39) := by
        unfold quoteB
        by_cases q1 : t = 34
        · simp [q1]
        · by_cases q2 : t = 39 <;> simp [q1, q2]
      have t34 := u8_eq_int t 34 (by decide)
      have t39 := u8_eq_int t 39 (by decide)
      have hct : ((c.toNat : Int) == (t.toNat : Int)) = decide (c = t) := by
        by_cases e : c = t
        · subst e; simp
        · have : ¬ (c.toNat : Int) = (t.toNat : Int) := fun h => e (by
            have : c.toNat = t.toNat := by omega
            exact UInt8.toNat_inj.1 this)
          simp [e, this]
      have e1 : CssEnd.css_end.l0 (m + 6) s (stInts (t :: st')) (i : Int) = CssEnd.css_end.j2 (m + 4) s (stInts (t :: st')) (i : Int) (c.toNat : Int) (t.toNat : Int) (quoteB (t :: st')) := by
        simp only [CssEnd.css_end.l0, CssEnd.css_end.j1, hb]
        rw [if_pos l1lt, if_pos l0lt, hlen, stInts_rd, hlen2]
        rw [if_pos (by omega), if_pos (by omega), if_pos (by omega)]
        rw [hq]
        by_cases q1 : t = 34
        · subst q1
          rw [if_pos (by decide), decide_eq_true (Or.inl rfl)]
        · have : ¬ (t.toNat : Int) = 34 := fun h => q1 (t34.1 h)
          rw [if_neg this]
          by_cases q2 : t = 39
          · subst q2
            rw [decide_eq_true (Or.inr rfl)]
            have h39 : (((39 : UInt8).toNat : Int) == 39) = true := by decide
            rw [h39]
          · have h39 : ((t.toNat : Int) == 39) = false := by simpa using fun h => q2 (t39.1 h)
            rw [h39]
            simp [q1, q2]
      have e3 : ∀ q, CssEnd.css_end.j3 (m + 3) s (stInts (t :: st')) (i : Int) (c.toNat : Int) (t.toNat : Int) q false = CssEnd.css_end.j4 (m + 2) s (stInts (t :: st')) (i : Int) (c.toNat : Int) q (decide (c = t)) := by
        intro q
        simp only [CssEnd.css_end.j3]
        rw [if_neg (by decide), if_neg htn, hct]
      have pop : ∀ q, c = t → CssEnd.css_end.j4 (m + 2) s (stInts (t :: st')) (i : Int) (c.toNat : Int) q true = some ((i + (endG false st' rest + 1) : Nat) : Int) := by
        intro q hct2
        simp only [CssEnd.css_end.j4]
        rw [if_pos trivial, hlen, hlen2, if_pos (by omega), if_pos (by omega), Int.toNat_natCast, stInts_take, w1]
        exact hw st' (by simp at hst; omega) (fun x hx => hz x (List.mem_cons_of_mem _ hx)) (m + 1) (by omega)
      rw [e1]
      have hpb : popB (t :: st') c = decide (c = t) := rfl
      simp only [endG, List.tail_cons]
      rw [hpb]
      by_cases hqt : quoteB (t :: st') = true
      · rw [hqt]
        by_cases h92 : c = 92
        · subst h92
          rw [if_pos ⟨rfl, rfl⟩]
          simp only [CssEnd.css_end.j2]
          rw [if_pos trivial]
          simp only [CssEnd.css_end.j3]
          rw [if_pos (by decide), w1, w2]
          exact skip (m + 2) (by omega)
        · have n92 : ((c.toNat : Int) == 92) = false := by simpa using fun h => h92 (c92.1 h)
          rw [if_neg (fun h => h92 h.2)]
          simp only [CssEnd.css_end.j2]
          rw [if_pos trivial, n92, e3]
          by_cases hc2 : c = t
          · rw [decide_eq_true hc2, if_pos rfl]
            exact pop true hc2
          · rw [decide_eq_false hc2, if_neg (show ¬ (false = true) by decide), if_pos trivial]
            simp only [CssEnd.css_end.j4]
            rw [if_neg (by decide), if_pos trivial, w1]
            exact hw (t :: st') (by omega) hz (m + 1) (by omega)
      · rw [Bool.not_eq_true] at hqt
        rw [hqt, if_neg (fun h => absurd h.1 (by decide))]
        simp only [CssEnd.css_end.j2]
        rw [if_neg (by decide), e3]
        by_cases hc2 : c = t
        · rw [decide_eq_true hc2, if_pos rfl]
          exact pop false hc2
        · rw [decide_eq_false hc2, if_neg (show ¬ (false = true) by decide), if_neg (show ¬ (false = true) by decide)]
          exact j5 (by rw [hqt]; decide) (by rw [hpb]; exact decide_eq_false hc2)
  · have hi' : i = s.size := by omega
    subst hi'
    rw [List.drop_of_length_le (by rw [← Lib.size_eq]; exact Nat.le_refl _)]
    simp [CssEnd.css_end.l0, endG]
/-- css.end. -/
theorem end_any (s : ByteArray) (w : World) (hs : s.size < 4294967281) :
    Calls Tryz.prog 99 #[.string s] w fun e w' => e = .returned (.int .i64 (endF s.data.toList : Int)) ∧ Below w.heap.size w w' := by
  have h := end_l0 s (by omega) s.size [] 0 (6 * s.size + 6) (by omega) (by omega) (by omega) (by simp) (by simp)
  rw [List.drop_zero, Nat.zero_add] at h
  exact CssEnd.css_end.calls _ s _ w h
end Go.Proofs.YtchooidhieaphaaGreatDoor
set_option linter.unusedVariables false
set_option linter.unusedSimpArgs false
namespace Go.Proofs.YtchooidhieaphaaGreatDoor
open Go.RowKit Go.Proofs.YtchooidhieaphaaGreatDoorW.PrintWords
def ws5 : List UInt8 := [32, 9, 10, 12, 13]
theorem trim5_any (s : ByteArray) (w : World) (hs : s.size < 4294967281) :
    Calls Tryz.prog 56 #[.string s, .string ⟨#[32, 9, 10, 12, 13]⟩] w fun e w' => e = .returned (.string ⟨(Lib.trimS s.data.toList ws5).toArray⟩) ∧ Below w.heap.size w w' :=
  Any.strings_Trim_laid Tryz.lays160 (by kernel_rfl) s ⟨#[32, 9, 10, 12, 13]⟩ w (by omega) (by decide) (ascii_of_all (by decide))
/-- One declaration's name and value. -/
def declN (l : List UInt8) : List UInt8 := (Lib.trimS (Lib.cut l [58]).1 ws5).map smallB
def declV (l : List UInt8) : List UInt8 := Lib.trimS (Lib.cut l [58]).2.1 ws5
def declF (l : List UInt8) : List (List UInt8 × List UInt8) := if declN l = [] ∨ declV l = [] then [] else [(declN l, declV l)]
/-- The declarations of a style's text. -/
def declsF (l : List UInt8) : List (List UInt8 × List UInt8) :=
  declF (l.take (endF l)) ++ (if h : endF l < l.length then declsF (l.drop (endF l + 1)) else [])
  termination_by l.length
  decreasing_by simp; omega
def toL (p : ByteArray × ByteArray) : List UInt8 × List UInt8 := (p.1.data.toList, p.2.data.toList)
def pairCells (l : List (ByteArray × ByteArray)) : List Value := l.flatMap fun p => [.string p.1, .string p.2]
theorem pairCells_snoc (l : List (ByteArray × ByteArray)) (a b : ByteArray) : pairCells (l ++ [(a, b)]) = pairCells l ++ [.string a, .string b] := by simp [pairCells]
def szV : Value → Nat | .string s => s.size | _ => 0
theorem info63 : (Tryz.prog.info? 63).map (fun i => (i.zero, i.size, i.bytes)) = some (some (.agg #[.string ⟨#[]⟩, .string ⟨#[]⟩]), 2, 32) := by kernel_rfl
theorem extract_take (s : ByteArray) (k : Nat) (h : k ≤ s.size) : (s.extract 0 k).data.toList = s.data.toList.take k := by
  rw [ByteArray.data_extract, Array.toList_extract, List.extract_eq_take_drop]
  simp
theorem extract_drop' (s : ByteArray) (k : Nat) : (s.extract k s.size).data.toList = s.data.toList.drop k := by
  rw [ByteArray.data_extract, Array.toList_extract, List.extract_eq_take_drop]
  rw [List.take_of_length_le]
  rw [List.length_drop]
  exact Nat.le_of_eq rfl
theorem not_empty {l : List UInt8} (h : ¬ l = []) : l.isEmpty = false := by cases l with | nil => exact absurd rfl h | cons a l => rfl
theorem own_below {w w1 : World} {base : Nat} {e : TypeId} {size n : Nat} {v : Value} {xs : List Value} (h : w.ownsRow base e size v n xs) (hb : Below w.heap.size w w1) : w1.ownsRow base e size v n xs :=
  own_move h fun k hk => hb.block k (World.ownsRow.lt h k hk).2
set_option maxRecDepth 100000 in
set_option maxHeartbeats 1600000 in
theorem cssCut_any (s : ByteArray) (w : World) (hG : Good w) (hs : s.size < 4294967281) :
    Calls Tryz.prog 68 #[.string s] w fun e w' => (∃ v ps, e = .returned v ∧ ps.map toL = declsF s.data.toList ∧ ps.length ≤ s.size + 1 ∧ w'.ownsRow w.heap.size 63 2 v ps.length (pairCells ps)) ∧ Below w.heap.size w w' := by
  obtain ⟨i63, hi, hz0, hz1, hz2⟩ := info_parts info63
  have HG := Lib.hid hG
  clear hG
  go_enter Tryz.func68, Tryz.ntmps68
  go_wp2_with fail
  go_loopw [0, 3] (fun r v wr => Below w.heap.size w wr ∧ ∃ (sb : ByteArray) (ps : List (ByteArray × ByteArray)), r = .string sb ∧ sb.size + ps.length ≤ s.size ∧ Hid (wr.ownsRow w.heap.size 63 2 v ps.length (pairCells ps)) ∧ Hid (ps.map toL ++ declsF sb.data.toList = declsF s.data.toList)) (fun r _ _ => szV r)
  case atStart => exact ⟨Below.refl _ _, s, [], rfl, by simp, Lib.hid (World.ownsRow_nil _ _ _ _), Lib.hid (by simp)⟩
  case round =>
    obtain ⟨hB, sb, ps, rfl, hle, hO, hD⟩ := hrel
    have HB := Lib.hid hB
    clear hB
    have hsb : sb.size < 4294967281 := by omega
    have HE := Lib.hid (end_any sb wr hsb)
    have hel := endG_le sb.data.toList false []
    have hel2 : endF sb.data.toList ≤ sb.size := by rw [Lib.size_eq]; exact hel
    have hdl := declsF.eq_1 sb.data.toList
    obtain ⟨n, hn⟩ : ∃ n, endF sb.data.toList = n := ⟨_, rfl⟩
    rw [hn] at HE hel2 hdl
    clear hn hel
    obtain ⟨d, hd⟩ : ∃ d, sb.data.toList.take n = d := ⟨_, rfl⟩
    have hds : (sb.extract 0 n).data.toList = d := by rw [extract_take sb n hel2, hd]
    have hdn : (sb.extract 0 n).size < 4294967281 := by rw [Lib.size_eq, hds, ← hd, List.length_take, ← Lib.size_eq]; omega
    have HCut := Lib.hid (fun w1 (h : Good w1) => cut_any (sb.extract 0 n) 58 w1 h hdn)
    have hcl := cut_le d [58]
    rw [hds] at HCut
    rw [hd] at hdl
    have hdz : d.length < 4294967281 := by rw [← hd, List.length_take, ← Lib.size_eq]; omega
    have HT1 := Lib.hid (fun w1 => trim5_any ⟨(Lib.cut d [58]).1.toArray⟩ w1 (by rw [size_mk]; omega))
    have HT2 := Lib.hid (fun w1 => trim5_any ⟨(Lib.cut d [58]).2.1.toArray⟩ w1 (by rw [size_mk]; omega))
    have htl := trimS_le (Lib.cut d [58]).1 ws5
    have HSm := Lib.hid (fun w1 => small_any ⟨(Lib.trimS (Lib.cut d [58]).1 ws5).toArray⟩ w1 (by rw [size_mk]; omega))
    rw [mk_toList] at HT1 HT2 HSm
    have hF : declF d = if (Lib.trimS (Lib.cut d [58]).1 ws5).map smallB = [] ∨ Lib.trimS (Lib.cut d [58]).2.1 ws5 = [] then [] else [((Lib.trimS (Lib.cut d [58]).1 ws5).map smallB, Lib.trimS (Lib.cut d [58]).2.1 ws5)] := rfl
    rw [hF] at hdl
    obtain ⟨nb, hnb⟩ : ∃ nb : ByteArray, (⟨((Lib.trimS (Lib.cut d [58]).1 ws5).map smallB).toArray⟩ : ByteArray) = nb := ⟨_, rfl⟩
    obtain ⟨vb, hvb⟩ : ∃ vb : ByteArray, (⟨(Lib.trimS (Lib.cut d [58]).2.1 ws5).toArray⟩ : ByteArray) = vb := ⟨_, rfl⟩
    have hnb2 : (Lib.trimS (Lib.cut d [58]).1 ws5).map smallB = nb.data.toList := by rw [← hnb]
    have hvb2 : Lib.trimS (Lib.cut d [58]).2.1 ws5 = vb.data.toList := by rw [← hvb]
    rw [hnb2, hvb2] at hdl
    rw [hnb] at HSm
    rw [hvb] at HT2
    obtain ⟨tb, htb⟩ : ∃ tb : ByteArray, (⟨(Lib.trimS (Lib.cut d [58]).1 ws5).toArray⟩ : ByteArray) = tb := ⟨_, rfl⟩
    rw [htb] at HT1 HSm
    obtain ⟨ab, hab⟩ : ∃ ab : ByteArray, (⟨(Lib.cut d [58]).1.toArray⟩ : ByteArray) = ab := ⟨_, rfl⟩
    obtain ⟨rb, hrb⟩ : ∃ rb : ByteArray, (⟨(Lib.cut d [58]).2.1.toArray⟩ : ByteArray) = rb := ⟨_, rfl⟩
    obtain ⟨fb, hfb⟩ : ∃ fb, (Lib.cut d [58]).2.2 = fb := ⟨_, rfl⟩
    rw [hab] at HT1 HCut
    rw [hrb] at HT2 HCut
    rw [hfb] at HCut
    have HDl := Lib.hid hdl
    have hnsz : n ≤ sb.data.toList.length := by rw [← Lib.size_eq]; exact hel2
    clear hdl hab hrb hfb htb hnb2 hvb2 hnb hvb hF htl hcl hds hdn hd hdz
    by_cases h1 : nb.data.toList = []
    · have e1 : nb.toList = [] := by rw [ByteArray.toList_eq]; exact h1
      have hif : nb.data.toList = [] ∨ vb.data.toList = [] := .inl h1
      clear h1
      by_cases hend : n = sb.size
      · have hE1 : ((n : Int) == (sb.size : Int)) = true := by simp [hend]
        have hE2 : (n == sb.size) = true := by simp [hend]
        have HN := Lib.hid (show (ps).map toL = declsF s.data.toList from by
          rw [← hD.out, HDl.out, dif_neg (by rw [← Lib.size_eq]; omega)]
          first | (rw [if_pos hif]; simp) | (rw [if_neg hif]; simp [toL]))
        clear hif HDl hD
        try clear hend
        go_wp2_with fail
        refine (HE.out).mono ?_
        rintro e w1 ⟨rfl, hb⟩
        replace HB := Lib.hid (below_then' HB.out hb)
        replace hO := Lib.hid (own_below hO.out hb)
        clear hb
        have hG1 := HG.out.below HB.out
        go_wp2_with fail
        refine (HCut.out w1 hG1).mono ?_
        rintro e w2 ⟨rfl, hb⟩
        replace HB := Lib.hid (below_then' HB.out hb)
        replace hO := Lib.hid (own_below hO.out hb)
        clear hb
        clear hG1
        go_wp2_with fail
        refine (HT1.out w2).mono ?_
        rintro e w3 ⟨rfl, hb⟩
        replace HB := Lib.hid (below_then' HB.out hb)
        replace hO := Lib.hid (own_below hO.out hb)
        clear hb
        go_wp2_with fail
        refine (HSm.out w3).mono ?_
        rintro e w4 ⟨rfl, hb⟩
        replace HB := Lib.hid (below_then' HB.out hb)
        replace hO := Lib.hid (own_below hO.out hb)
        clear hb
        go_wp2_with fail
        refine (HT2.out w4).mono ?_
        rintro e w5 ⟨rfl, hb⟩
        replace HB := Lib.hid (below_then' HB.out hb)
        replace hO := Lib.hid (own_below hO.out hb)
        clear hb
        go_wp2_with fail
        go_ret
        exact ⟨⟨_, ps, rfl, HN.out, by omega, hO.out⟩, HB.out⟩
      · have hE1 : ((n : Int) == (sb.size : Int)) = false := by simp; omega
        have hE2 : (n == sb.size) = false := by simp; omega
        have hlt : n < sb.size := by omega
        have HZ := Lib.hid (show (sb.extract (n + 1) sb.size).size + ps.length + 1 ≤ s.size ∧ (sb.extract (n + 1) sb.size).size < sb.size from by
          rw [Lib.size_eq, extract_drop', List.length_drop, ← Lib.size_eq]
          omega)
        have HN := Lib.hid (show (ps).map toL ++ declsF (sb.extract (n + 1) sb.size).data.toList = declsF s.data.toList from by
          rw [← hD.out, HDl.out, dif_pos (by rw [← Lib.size_eq]; omega), extract_drop']
          first | (rw [if_pos hif]; simp) | (rw [if_neg hif]; simp [toL]))
        clear hif HDl hD
        try clear hend
        go_wp2_with fail
        refine (HE.out).mono ?_
        rintro e w1 ⟨rfl, hb⟩
        replace HB := Lib.hid (below_then' HB.out hb)
        replace hO := Lib.hid (own_below hO.out hb)
        clear hb
        have hG1 := HG.out.below HB.out
        go_wp2_with fail
        refine (HCut.out w1 hG1).mono ?_
        rintro e w2 ⟨rfl, hb⟩
        replace HB := Lib.hid (below_then' HB.out hb)
        replace hO := Lib.hid (own_below hO.out hb)
        clear hb
        clear hG1
        go_wp2_with fail
        refine (HT1.out w2).mono ?_
        rintro e w3 ⟨rfl, hb⟩
        replace HB := Lib.hid (below_then' HB.out hb)
        replace hO := Lib.hid (own_below hO.out hb)
        clear hb
        go_wp2_with fail
        refine (HSm.out w3).mono ?_
        rintro e w4 ⟨rfl, hb⟩
        replace HB := Lib.hid (below_then' HB.out hb)
        replace hO := Lib.hid (own_below hO.out hb)
        clear hb
        go_wp2_with fail
        refine (HT2.out w4).mono ?_
        rintro e w5 ⟨rfl, hb⟩
        replace HB := Lib.hid (below_then' HB.out hb)
        replace hO := Lib.hid (own_below hO.out hb)
        clear hb
        go_wp2_with fail
        go_roundw
        case rel => exact ⟨HB.out, sb.extract (n + 1) sb.size, ps, rfl, by have := HZ.out; omega, hO, HN⟩
        case measure => show (sb.extract (n + 1) sb.size).size < sb.size; have := HZ.out; omega
    · have e1 : ¬ nb.toList = [] := by rw [ByteArray.toList_eq]; exact h1
      by_cases h2 : vb.data.toList = []
      · have e2 : vb.toList = [] := by rw [ByteArray.toList_eq]; exact h2
        have hif : nb.data.toList = [] ∨ vb.data.toList = [] := .inr h2
        clear h1 h2
        by_cases hend : n = sb.size
        · have hE1 : ((n : Int) == (sb.size : Int)) = true := by simp [hend]
          have hE2 : (n == sb.size) = true := by simp [hend]
          have HN := Lib.hid (show (ps).map toL = declsF s.data.toList from by
            rw [← hD.out, HDl.out, dif_neg (by rw [← Lib.size_eq]; omega)]
            first | (rw [if_pos hif]; simp) | (rw [if_neg hif]; simp [toL]))
          clear hif HDl hD
          try clear hend
          go_wp2_with fail
          refine (HE.out).mono ?_
          rintro e w1 ⟨rfl, hb⟩
          replace HB := Lib.hid (below_then' HB.out hb)
          replace hO := Lib.hid (own_below hO.out hb)
          clear hb
          have hG1 := HG.out.below HB.out
          go_wp2_with fail
          refine (HCut.out w1 hG1).mono ?_
          rintro e w2 ⟨rfl, hb⟩
          replace HB := Lib.hid (below_then' HB.out hb)
          replace hO := Lib.hid (own_below hO.out hb)
          clear hb
          clear hG1
          go_wp2_with fail
          refine (HT1.out w2).mono ?_
          rintro e w3 ⟨rfl, hb⟩
          replace HB := Lib.hid (below_then' HB.out hb)
          replace hO := Lib.hid (own_below hO.out hb)
          clear hb
          go_wp2_with fail
          refine (HSm.out w3).mono ?_
          rintro e w4 ⟨rfl, hb⟩
          replace HB := Lib.hid (below_then' HB.out hb)
          replace hO := Lib.hid (own_below hO.out hb)
          clear hb
          go_wp2_with fail
          refine (HT2.out w4).mono ?_
          rintro e w5 ⟨rfl, hb⟩
          replace HB := Lib.hid (below_then' HB.out hb)
          replace hO := Lib.hid (own_below hO.out hb)
          clear hb
          go_wp2_with fail
          go_ret
          exact ⟨⟨_, ps, rfl, HN.out, by omega, hO.out⟩, HB.out⟩
        · have hE1 : ((n : Int) == (sb.size : Int)) = false := by simp; omega
          have hE2 : (n == sb.size) = false := by simp; omega
          have hlt : n < sb.size := by omega
          have HZ := Lib.hid (show (sb.extract (n + 1) sb.size).size + ps.length + 1 ≤ s.size ∧ (sb.extract (n + 1) sb.size).size < sb.size from by
            rw [Lib.size_eq, extract_drop', List.length_drop, ← Lib.size_eq]
            omega)
          have HN := Lib.hid (show (ps).map toL ++ declsF (sb.extract (n + 1) sb.size).data.toList = declsF s.data.toList from by
            rw [← hD.out, HDl.out, dif_pos (by rw [← Lib.size_eq]; omega), extract_drop']
            first | (rw [if_pos hif]; simp) | (rw [if_neg hif]; simp [toL]))
          clear hif HDl hD
          try clear hend
          go_wp2_with fail
          refine (HE.out).mono ?_
          rintro e w1 ⟨rfl, hb⟩
          replace HB := Lib.hid (below_then' HB.out hb)
          replace hO := Lib.hid (own_below hO.out hb)
          clear hb
          have hG1 := HG.out.below HB.out
          go_wp2_with fail
          refine (HCut.out w1 hG1).mono ?_
          rintro e w2 ⟨rfl, hb⟩
          replace HB := Lib.hid (below_then' HB.out hb)
          replace hO := Lib.hid (own_below hO.out hb)
          clear hb
          clear hG1
          go_wp2_with fail
          refine (HT1.out w2).mono ?_
          rintro e w3 ⟨rfl, hb⟩
          replace HB := Lib.hid (below_then' HB.out hb)
          replace hO := Lib.hid (own_below hO.out hb)
          clear hb
          go_wp2_with fail
          refine (HSm.out w3).mono ?_
          rintro e w4 ⟨rfl, hb⟩
          replace HB := Lib.hid (below_then' HB.out hb)
          replace hO := Lib.hid (own_below hO.out hb)
          clear hb
          go_wp2_with fail
          refine (HT2.out w4).mono ?_
          rintro e w5 ⟨rfl, hb⟩
          replace HB := Lib.hid (below_then' HB.out hb)
          replace hO := Lib.hid (own_below hO.out hb)
          clear hb
          go_wp2_with fail
          go_roundw
          case rel => exact ⟨HB.out, sb.extract (n + 1) sb.size, ps, rfl, by have := HZ.out; omega, hO, HN⟩
          case measure => show (sb.extract (n + 1) sb.size).size < sb.size; have := HZ.out; omega
      · have e2 : ¬ vb.toList = [] := by rw [ByteArray.toList_eq]; exact h2
        have e2b : vb.toList.isEmpty = false := not_empty e2
        have e1b : nb.toList.isEmpty = false := not_empty e1
        have hif : ¬ (nb.data.toList = [] ∨ vb.data.toList = []) := fun h => h.elim h1 h2
        clear h1 h2
        by_cases hend : n = sb.size
        · have hE1 : ((n : Int) == (sb.size : Int)) = true := by simp [hend]
          have hE2 : (n == sb.size) = true := by simp [hend]
          have HN := Lib.hid (show (ps ++ [(nb, vb)]).map toL = declsF s.data.toList from by
            rw [← hD.out, HDl.out, dif_neg (by rw [← Lib.size_eq]; omega)]
            first | (rw [if_pos hif]; simp) | (rw [if_neg hif]; simp [toL]))
          clear hif HDl hD
          try clear hend
          go_wp2_with fail
          refine (HE.out).mono ?_
          rintro e w1 ⟨rfl, hb⟩
          replace HB := Lib.hid (below_then' HB.out hb)
          replace hO := Lib.hid (own_below hO.out hb)
          clear hb
          have hG1 := HG.out.below HB.out
          go_wp2_with fail
          refine (HCut.out w1 hG1).mono ?_
          rintro e w2 ⟨rfl, hb⟩
          replace HB := Lib.hid (below_then' HB.out hb)
          replace hO := Lib.hid (own_below hO.out hb)
          clear hb
          clear hG1
          go_wp2_with fail
          refine (HT1.out w2).mono ?_
          rintro e w3 ⟨rfl, hb⟩
          replace HB := Lib.hid (below_then' HB.out hb)
          replace hO := Lib.hid (own_below hO.out hb)
          clear hb
          go_wp2_with fail
          refine (HSm.out w3).mono ?_
          rintro e w4 ⟨rfl, hb⟩
          replace HB := Lib.hid (below_then' HB.out hb)
          replace hO := Lib.hid (own_below hO.out hb)
          clear hb
          go_wp2_with fail
          refine (HT2.out w4).mono ?_
          rintro e w5 ⟨rfl, hb⟩
          replace HB := Lib.hid (below_then' HB.out hb)
          replace hO := Lib.hid (own_below hO.out hb)
          clear hb
          go_wp2_with (at_builtin; go_loud (refine wpList_append_own _ rfl _ _ 61 rfl w.heap.size 63 i63 (.agg #[.string ⟨#[]⟩, .string ⟨#[]⟩]) 2 32 Tryz.underlying61 hi hz0 hz1 hz2 rfl (by decide) u3 ps.length (pairCells ps) rfl (hO.out.alloc _) ⟨w5.heap.size, 0, none⟩ 1 1 [.string nb, .string vb] rfl rfl ?c1 ?c2 ?c3 ?c4 ?c5 ?_))
          case c1 =>
            intro j u hj
            rw [Addr.add_lit]
            match j, hj with
            | 0, hj => exact alloc_cell _ _ _ _ _ hj
            | 1, hj => exact alloc_cell _ _ _ _ _ hj
            | j + 2, hj => simp at hj
          case c2 => intro u hu; rcases List.mem_cons.1 hu with rfl | hu; rfl; rcases List.mem_cons.1 hu with rfl | hu; rfl; cases hu
          case c3 => unfold maxLen; omega
          case c4 => omega
          case c5 => have := HB.out.size; rw [alloc_size]; omega
          intro v' w6 hown hgr _
          have hown2 : w6.ownsRow w.heap.size 63 2 v' (ps ++ [(nb, vb)]).length (pairCells (ps ++ [(nb, vb)])) := by
            rw [pairCells_snoc, List.length_append]
            exact hown
          have hown := hown2
          clear hown2
          have HO2 := Lib.hid hown
          have HB6 := Lib.hid (show Below w.heap.size w w6 from (HB.out.alloc HB.out.size _).grown hgr (by have := HB.out.size; rw [alloc_size]; omega) (fun k hk => (hO.out.lt k hk).1))
          clear hown hgr
          go_wp2_with fail
          go_ret
          exact ⟨⟨_, ps ++ [(nb, vb)], rfl, HN.out, by simp; omega, HO2.out⟩, HB6.out⟩
        · have hE1 : ((n : Int) == (sb.size : Int)) = false := by simp; omega
          have hE2 : (n == sb.size) = false := by simp; omega
          have hlt : n < sb.size := by omega
          have HZ := Lib.hid (show (sb.extract (n + 1) sb.size).size + ps.length + 1 ≤ s.size ∧ (sb.extract (n + 1) sb.size).size < sb.size from by
            rw [Lib.size_eq, extract_drop', List.length_drop, ← Lib.size_eq]
            omega)
          have HN := Lib.hid (show (ps ++ [(nb, vb)]).map toL ++ declsF (sb.extract (n + 1) sb.size).data.toList = declsF s.data.toList from by
            rw [← hD.out, HDl.out, dif_pos (by rw [← Lib.size_eq]; omega), extract_drop']
            first | (rw [if_pos hif]; simp) | (rw [if_neg hif]; simp [toL]))
          clear hif HDl hD
          try clear hend
          go_wp2_with fail
          refine (HE.out).mono ?_
          rintro e w1 ⟨rfl, hb⟩
          replace HB := Lib.hid (below_then' HB.out hb)
          replace hO := Lib.hid (own_below hO.out hb)
          clear hb
          have hG1 := HG.out.below HB.out
          go_wp2_with fail
          refine (HCut.out w1 hG1).mono ?_
          rintro e w2 ⟨rfl, hb⟩
          replace HB := Lib.hid (below_then' HB.out hb)
          replace hO := Lib.hid (own_below hO.out hb)
          clear hb
          clear hG1
          go_wp2_with fail
          refine (HT1.out w2).mono ?_
          rintro e w3 ⟨rfl, hb⟩
          replace HB := Lib.hid (below_then' HB.out hb)
          replace hO := Lib.hid (own_below hO.out hb)
          clear hb
          go_wp2_with fail
          refine (HSm.out w3).mono ?_
          rintro e w4 ⟨rfl, hb⟩
          replace HB := Lib.hid (below_then' HB.out hb)
          replace hO := Lib.hid (own_below hO.out hb)
          clear hb
          go_wp2_with fail
          refine (HT2.out w4).mono ?_
          rintro e w5 ⟨rfl, hb⟩
          replace HB := Lib.hid (below_then' HB.out hb)
          replace hO := Lib.hid (own_below hO.out hb)
          clear hb
          go_wp2_with (at_builtin; go_loud (refine wpList_append_own _ rfl _ _ 61 rfl w.heap.size 63 i63 (.agg #[.string ⟨#[]⟩, .string ⟨#[]⟩]) 2 32 Tryz.underlying61 hi hz0 hz1 hz2 rfl (by decide) u3 ps.length (pairCells ps) rfl (hO.out.alloc _) ⟨w5.heap.size, 0, none⟩ 1 1 [.string nb, .string vb] rfl rfl ?c1 ?c2 ?c3 ?c4 ?c5 ?_))
          case c1 =>
            intro j u hj
            rw [Addr.add_lit]
            match j, hj with
            | 0, hj => exact alloc_cell _ _ _ _ _ hj
            | 1, hj => exact alloc_cell _ _ _ _ _ hj
            | j + 2, hj => simp at hj
          case c2 => intro u hu; rcases List.mem_cons.1 hu with rfl | hu; rfl; rcases List.mem_cons.1 hu with rfl | hu; rfl; cases hu
          case c3 => unfold maxLen; omega
          case c4 => omega
          case c5 => have := HB.out.size; rw [alloc_size]; omega
          intro v' w6 hown hgr _
          have hown2 : w6.ownsRow w.heap.size 63 2 v' (ps ++ [(nb, vb)]).length (pairCells (ps ++ [(nb, vb)])) := by
            rw [pairCells_snoc, List.length_append]
            exact hown
          have hown := hown2
          clear hown2
          have HO2 := Lib.hid hown
          have HB6 := Lib.hid (show Below w.heap.size w w6 from (HB.out.alloc HB.out.size _).grown hgr (by have := HB.out.size; rw [alloc_size]; omega) (fun k hk => (hO.out.lt k hk).1))
          clear hown hgr
          go_wp2_with fail
          go_roundw
          case rel => exact ⟨HB6.out, sb.extract (n + 1) sb.size, ps ++ [(nb, vb)], rfl, by have := HZ.out; simp; omega, HO2, HN⟩
          case measure => show (sb.extract (n + 1) sb.size).size < sb.size; have := HZ.out; omega
end Go.Proofs.YtchooidhieaphaaGreatDoor
set_option linter.unusedVariables false
set_option linter.unusedSimpArgs false
namespace Go.Proofs.YtchooidhieaphaaGreatDoor
open Go.RowKit Go.Proofs.YtchooidhieaphaaGreatDoorW.PrintWords
def nameAt (j : Nat) : ByteArray := ⟨(cssNames.getD j []).toArray⟩
set_option maxRecDepth 100000 in
theorem names_found : ∀ j : Fin 38, Lib.bsGo (fun t => Op.bytesLess (cssNames.getD t []) (cssNames.getD j.val [])) 38 0 38 = j.val := by decide +kernel
theorem search_any (x : ByteArray) (b o c : Nat) (w : World) (hc : ∀ i, i < 38 → w.cell? ⟨b, o + i, none⟩ = some (.string (nameAt i))) :
    Calls Tryz.prog 101 #[.slice (some ⟨b, o, none⟩) 38 c, .string x] w fun e w' => (∃ i, e = .returned (.tuple #[.int .i64 i, .bool (decide (x.data.toList ∈ cssNames))])) ∧ Below w.heap.size w w' := by
  refine Calls.mono (Any2.slices_BinarySearch_string Tryz.laysNm226 b o 38 c nameAt x w (by decide) hc : Calls Tryz.prog 101 #[.slice (some ⟨b, o, none⟩) 38 c, .string x] w _) fun e w' h => ?_
  obtain ⟨h1, q, rfl⟩ := h
  have hiff : decide (Lib.bsGo (fun t => Op.bytesLess (nameAt t).toList x.toList) 38 0 38 < 38 ∧ nameAt (Lib.bsGo (fun t => Op.bytesLess (nameAt t).toList x.toList) 38 0 38) = x) = decide (x.data.toList ∈ cssNames) := by
    rw [decide_eq_decide]
    constructor
    · rintro ⟨h1, h2⟩
      rw [← h2]
      generalize Lib.bsGo (fun t => Op.bytesLess (nameAt t).toList x.toList) 38 0 38 = z at h1
      simp only [nameAt, mk_toList]
      have hl : cssNames.length = 38 := rfl
      rw [List.getD_eq_getElem?_getD, List.getElem?_eq_getElem (by omega)]
      exact List.getElem_mem _
    · intro hm
      obtain ⟨j, hj, he⟩ := List.getElem_of_mem hm
      have hl : cssNames.length = 38 := rfl
      have hj2 : j < 38 := by omega
      have hx : x = nameAt j := by
        unfold nameAt
        rw [List.getD_eq_getElem?_getD, List.getElem?_eq_getElem hj, Option.getD_some, he]
      have hf := names_found ⟨j, hj2⟩
      have hb : Lib.bsGo (fun t => Op.bytesLess (nameAt t).toList x.toList) 38 0 38 = j := by
        rw [hx]
        simp only [nameAt, ByteArray.toList_eq, mk_toList]
        exact hf
      rw [hb]
      exact ⟨hj2, hx.symm⟩
  rw [hiff] at h1
  exact ⟨⟨_, h1⟩, below_drewN' (Below.refl _ _) q⟩
/-- What a safe value is made of. -/
def alpha : List UInt8 := [97, 98, 99, 100, 101, 102, 103, 104, 105, 106, 107, 108, 109, 110, 111, 112, 113, 114, 115, 116, 117, 118, 119, 120, 121, 122, 65, 66, 67, 68, 69, 70, 71, 72, 73, 74, 75, 76, 77, 78, 79, 80, 81, 82, 83, 84, 85, 86, 87, 88, 89, 90, 48, 49, 50, 51, 52, 53, 54, 55, 56, 57, 32, 35, 46, 37, 44, 45, 43, 33]
theorem trimA_any (s : ByteArray) (w : World) (hs : s.size < 4294967281) :
    Calls Tryz.prog 56 #[.string s, .string ⟨alpha.toArray⟩] w fun e w' => e = .returned (.string ⟨(Lib.trimS s.data.toList alpha).toArray⟩) ∧ Below w.heap.size w w' :=
  Any.strings_Trim_laid Tryz.lays160 (by kernel_rfl) s ⟨alpha.toArray⟩ w (by omega) (by decide) (ascii_of_all (by decide))
/-- Whether a declaration stays. -/
def safeF (n v : List UInt8) : Bool := decide (n ∈ cssNames) && (decide (¬ v = []) && (decide (v.length ≤ 100) && decide (Lib.trimS v alpha = [])))
set_option maxRecDepth 100000 in
set_option maxHeartbeats 1600000 in
theorem safe_any (n v : ByteArray) (w : World) (hG : Good w) (hv : v.size < 4294967281) :
    Calls Tryz.prog 70 #[.string n, .string v] w fun e w' => e = .returned (.bool (safeF n.data.toList v.data.toList)) ∧ Below w.heap.size w w' := by
  obtain ⟨b, o, c, hc, hi⟩ := hG.names
  have HS := Lib.hid (search_any n b o c w hi)
  have HT := Lib.hid (fun w1 => trimA_any v w1 hv)
  have hF : safeF n.data.toList v.data.toList = (decide (n.data.toList ∈ cssNames) && (decide (¬ v.data.toList = []) && (decide (v.data.toList.length ≤ 100) && decide (Lib.trimS v.data.toList alpha = [])))) := rfl
  rw [hF]
  obtain ⟨f, hf⟩ : ∃ f, decide (n.data.toList ∈ cssNames) = f := ⟨_, rfl⟩
  obtain ⟨tb, htb⟩ : ∃ tb : ByteArray, (⟨(Lib.trimS v.data.toList alpha).toArray⟩ : ByteArray) = tb := ⟨_, rfl⟩
  have ht2 : Lib.trimS v.data.toList alpha = tb.data.toList := by rw [← htb]
  rw [hf] at HS ⊢
  rw [htb] at HT
  rw [ht2, ← Lib.size_eq]
  clear hF hf htb ht2 hG hi
  go_enter Tryz.func70, Tryz.ntmps70
  go_wp2_with fail
  refine HS.out.mono ?_
  rintro e w1 ⟨⟨i, rfl⟩, hb⟩
  have HB := Lib.hid hb
  clear hb hc
  cases f with
  | false =>
    go_wp2_with fail
    go_ret
    exact ⟨rfl, HB.out⟩
  | true =>
    by_cases h1 : v.data.toList = []
    · have e1 : v.toList = [] := by rw [ByteArray.toList_eq]; exact h1
      have e1b : v.toList.isEmpty = true := by rw [e1]; rfl
      go_wp2_with fail
      go_ret
      exact ⟨ret_bool (by simp [h1]), HB.out⟩
    · have e1 : ¬ v.toList = [] := by rw [ByteArray.toList_eq]; exact h1
      have e1b := not_empty e1
      by_cases h2 : v.size ≤ 100
      · have hd : decide ((v.size : Int) ≤ 100) = true := decide_eq_true (by omega)
        go_wp2_with (go_at_call 56; refine (HT.out w1).mono ?_; rintro e w2 ⟨rfl, hb2⟩; have HB2 := Lib.hid (below_then' HB.out hb2); clear hb2)
        all_goals
          go_ret
          refine ⟨ret_bool ?_, HB2.out⟩
          have ht : (decide (tb.data.toList = [])) = tb.toList.isEmpty := by rw [ByteArray.toList_eq]; cases tb.data.toList <;> rfl
          rw [ht, decide_eq_true h1, decide_eq_true h2, Bool.true_and, Bool.true_and, Bool.true_and]
      · have hd : decide ((v.size : Int) ≤ 100) = false := decide_eq_false (by omega)
        go_wp2_with fail
        go_ret
        exact ⟨ret_bool (by simp [h1, h2]), HB.out⟩
end Go.Proofs.YtchooidhieaphaaGreatDoor
set_option linter.unusedVariables false
set_option linter.unusedSimpArgs false
namespace Go.Proofs.YtchooidhieaphaaGreatDoor
open Go.RowKit Go.Proofs.YtchooidhieaphaaGreatDoorW.PrintWords
abbrev Pair := ByteArray × ByteArray
def idxP (p : Pair → Bool) (l : List Pair) : Int := match l.findIdx? p with | some i => i | none => -1
theorem idxP_hit (p : Pair → Bool) (l : List Pair) (k : Nat) (x : Pair) (hx : l[k]? = some x) (h : p x = true) (hno : ∀ (j : Nat) (y : Pair), j < k → l[j]? = some y → p y = false) : idxP p l = (k : Int) := by
  obtain ⟨hk, he⟩ := List.getElem?_eq_some_iff.1 hx
  unfold idxP
  have : l.findIdx? p = some k := by
    rw [List.findIdx?_eq_some_iff_getElem]
    refine ⟨hk, by rw [he]; exact h, fun j hj => ?_⟩
    have := hno j l[j] hj (List.getElem?_eq_getElem (by omega))
    rw [this]; exact Bool.false_ne_true
  rw [this]
theorem idxP_miss (p : Pair → Bool) (l : List Pair) (hno : ∀ (j : Nat) (y : Pair), l[j]? = some y → p y = false) : idxP p l = -1 := by
  unfold idxP
  have : l.findIdx? p = none := by
    rw [List.findIdx?_eq_none_iff]
    intro x hx
    obtain ⟨j, hj⟩ := List.getElem?_of_mem hx
    exact hno j x hj
  rw [this]
/-- The cells of a slice of pairs. -/
def PairsIn (w : World) (A : Option Addr) (l : List Pair) : Prop :=
  ∀ (j : Nat) (x : Pair), l[j]? = some x → ∃ ad, A = some ad ∧ w.cell? (ad.add (j * 2)) = some (.string x.1) ∧ w.cell? ⟨(ad.add (j * 2)).block, (ad.add (j * 2)).off + 1, none⟩ = some (.string x.2)
theorem PairsIn.below {w w1 : World} {A : Option Addr} {l : List Pair} (h : PairsIn w A l) (hb : Below w.heap.size w w1) : PairsIn w1 A l := fun j x hx => by
  obtain ⟨ad, h1, h2, h3⟩ := h j x hx
  exact ⟨ad, h1, cell_later hb h2, cell_later hb h3⟩
set_option maxRecDepth 100000 in
set_option maxHeartbeats 1600000 in
theorem idx2_any (g : Nat) (lb : Array Value) (eg : ∀ args w, (callFunc g args).run Tryz.prog w = .ok (.enter g args) w) (p : Pair → Bool) (A : Option Addr) (c : Nat) (l : List Pair) (w : World) (hl : l.length < 9223372036854775807)
    (hc : PairsIn w A l) (hp : ∀ (j : Nat) (x : Pair) (W : World), l[j]? = some x → Below w.heap.size w W → Calls Tryz.prog g (#[.agg #[.string x.1, .string x.2]] ++ lb) W fun e w' => e = .returned (.bool (p x)) ∧ Below W.heap.size W w') :
    Calls Tryz.prog 98 #[.slice A l.length c, .func (.func g) #[] lb] w fun e w' => e = .returned (.int .i64 (idxP p l)) ∧ Below w.heap.size w w' := by
  have HC := Lib.hid hc
  have HPr := Lib.hid hp
  clear hc hp
  go_enter Tryz.func98, Tryz.ntmps98
  go_wp2
  go_loopw [8] (fun i wr => Below w.heap.size w wr ∧ ∃ k : Nat, k ≤ l.length ∧ i = .int .i64 (k : Int) ∧ Hid (∀ (j : Nat) (y : Pair), j < k → l[j]? = some y → p y = false)) (fun i _ => l.length - (intOf i).toNat)
  case atStart => exact ⟨Below.refl _ _, 0, Nat.zero_le _, rfl, Lib.hid (fun j y h => absurd h (Nat.not_lt_zero _))⟩
  case round =>
    obtain ⟨hB, k, hk, rfl, hN⟩ := hrel
    have HB := Lib.hid hB
    by_cases hlt : k < l.length
    · obtain ⟨x, hx⟩ : ∃ x, l[k]? = some x := ⟨_, List.getElem?_eq_getElem hlt⟩
      obtain ⟨ad, rfl, c0, c1⟩ := (HC.out.below hB) k x hx
      have HX := Lib.hid hx
      have HP := Lib.hid (HPr.out k x wr hx hB)
      clear hx hB
      cases hp : p x with
      | true =>
        rw [hp] at HP
        have HPp := Lib.hid hp
        clear hp
        go_wp2_with fail
        go_at_fn g
        refine HP.out.mono ?_
        rintro e w1 ⟨rfl, hb1⟩
        have HB1 := Lib.hid (below_then' HB.out hb1)
        clear hb1 c0 c1
        go_wp2_with fail
        go_ret
        exact ⟨ret_int (idxP_hit p l k x HX.out HPp.out hN.out).symm, HB1.out⟩
      | false =>
        rw [hp] at HP
        have HPp := Lib.hid (show ∀ (j : Nat) (y : Pair), j < k + 1 → l[j]? = some y → p y = false from fun j y hj hy => by
          by_cases e : j = k
          · subst e; rw [HX.out] at hy; injection hy with hy; rw [← hy]; exact hp
          · exact hN.out j y (by omega) hy)
        clear hp
        go_wp2_with fail
        go_at_fn g
        refine HP.out.mono ?_
        rintro e w1 ⟨rfl, hb1⟩
        have HB1 := Lib.hid (below_then' HB.out hb1)
        clear hb1 c0 c1
        go_wp2_with fail
        go_roundw
        case rel => exact ⟨HB1.out, k + 1, by omega, by go_num, HPp⟩
        case measure => simp [intOf]; omega
    · have hkl : k = l.length := by omega
      subst hkl
      clear hB
      go_wp2_with fail
      go_ret
      exact ⟨ret_int (idxP_miss p l (fun j y hy => hN.out j y (List.getElem?_eq_some_iff.1 hy).1 hy)).symm, HB.out⟩
theorem idxP_any (p : Pair → Bool) (l : List Pair) : decide (0 ≤ idxP p l) = l.any p := by
  unfold idxP
  cases h : l.findIdx? p with
  | none =>
    rw [List.findIdx?_eq_none_iff] at h
    have : l.any p = false := by simpa using h
    rw [this]; rfl
  | some i =>
    rw [List.findIdx?_eq_some_iff_getElem] at h
    obtain ⟨hi, hpi, _⟩ := h
    have : l.any p = true := List.any_eq_true.2 ⟨_, List.getElem_mem hi, hpi⟩
    rw [this]
    exact decide_eq_true (Int.natCast_nonneg i)
set_option maxRecDepth 100000 in
set_option maxHeartbeats 1600000 in
theorem contains2_any (g : Nat) (lb : Array Value) (eg : ∀ args w, (callFunc g args).run Tryz.prog w = .ok (.enter g args) w) (p : Pair → Bool) (A : Option Addr) (c : Nat) (l : List Pair) (w : World) (hl : l.length < 9223372036854775807)
    (hc : PairsIn w A l) (hp : ∀ (j : Nat) (x : Pair) (W : World), l[j]? = some x → Below w.heap.size w W → Calls Tryz.prog g (#[.agg #[.string x.1, .string x.2]] ++ lb) W fun e w' => e = .returned (.bool (p x)) ∧ Below W.heap.size W w') :
    Calls Tryz.prog 71 #[.slice A l.length c, .func (.func g) #[] lb] w fun e w' => e = .returned (.bool (l.any p)) ∧ Below w.heap.size w w' := by
  have HI := Lib.hid (idx2_any g lb eg p A c l w hl hc hp)
  rw [← idxP_any]
  clear hc hp eg
  go_enter Tryz.func71, Tryz.ntmps71
  go_wp2_with fail
  refine HI.out.mono ?_
  rintro e w1 ⟨rfl, hb⟩
  have HB := Lib.hid hb
  clear hb
  go_wp2_with fail
  go_ret
  exact ⟨rfl, HB.out⟩
end Go.Proofs.YtchooidhieaphaaGreatDoor
set_option linter.unusedVariables false
set_option linter.unusedSimpArgs false
namespace Go.Proofs.YtchooidhieaphaaGreatDoor
open Go.RowKit Go.Proofs.YtchooidhieaphaaGreatDoorW.PrintWords
def deadP (x : Pair) : Bool := !safeF x.1.data.toList x.2.data.toList
set_option maxRecDepth 100000 in
theorem dead_any (x : Pair) (w : World) (hG : Good w) (hv : x.2.size < 4294967281) :
    Calls Tryz.prog 69 #[.agg #[.string x.1, .string x.2]] w fun e w' => e = .returned (.bool (deadP x)) ∧ Below w.heap.size w w' := by
  obtain ⟨n, v⟩ := x
  have hB : Below w.heap.size w (w.alloc (.cells #[.string n, .string v] 63)) := (Below.refl _ _).alloc (Nat.le_refl _) _
  have HS := Lib.hid (safe_any n v _ (hG.below hB) hv)
  have HB := Lib.hid hB
  clear hB hG
  unfold deadP
  obtain ⟨f, hf⟩ : ∃ f, safeF n.data.toList v.data.toList = f := ⟨_, rfl⟩
  rw [hf] at HS ⊢
  clear hf
  go_enter Tryz.func69, Tryz.ntmps69
  go_wp2_with fail
  refine HS.out.mono ?_
  rintro e w1 ⟨rfl, hb⟩
  have HB1 := Lib.hid (below_then' HB.out hb)
  clear hb
  go_wp2_with fail
  go_ret
  exact ⟨rfl, HB1.out⟩
theorem same_dec (a b : List UInt8) : decide (a = b) = (a == b) := by
  by_cases h : a = b
  · subst h; simp
  · rw [decide_eq_false h, beq_eq_false_iff_ne.2 h]
set_option maxRecDepth 100000 in
theorem same_any (x : Pair) (d : ByteArray) (b : Nat) (w : World) (hb : w.cell? ⟨b, 0, none⟩ = some (.string d)) :
    Calls Tryz.prog 72 (#[.agg #[.string x.1, .string x.2]] ++ #[.pointer (some ⟨b, 0, none⟩)]) w fun e w' => e = .returned (.bool (decide (x.1.data.toList = d.data.toList))) ∧ Below w.heap.size w w' := by
  obtain ⟨n, v⟩ := x
  have hB : Below w.heap.size w (w.alloc (.cells #[.string n, .string v] 63)) := (Below.refl _ _).alloc (Nat.le_refl _) _
  have hc := cell_later hB hb
  have HB := Lib.hid hB
  have HD := Lib.hid (show decide (n.data.toList = d.data.toList) = (n.toList == d.toList) by rw [ByteArray.toList_eq, ByteArray.toList_eq]; exact same_dec _ _)
  clear hB hb
  show Calls Tryz.prog 72 #[.agg #[.string n, .string v], .pointer (some ⟨b, 0, none⟩)] w _
  go_enter Tryz.func72, Tryz.ntmps72
  go_wp2_with fail
  go_ret
  exact ⟨ret_bool HD.out.symm, HB.out⟩
theorem run_clear_two (w : World) (ty : TypeId) (b o n c : Nat) (hn : 0 < n) (hc : ∀ j, j < n * 2 → (w.cell? ⟨b, o + j, none⟩).isSome = true) (hf : ∀ j, j < n * 2 → w.frozen? ⟨b, o + j, none⟩ = false) :
    (Builtin.clear_ #[61] ty #[.slice (some ⟨b, o, none⟩) n c]).run Tryz.prog w = .ok (.tuple #[]) (w.setCells b o (List.replicate (n * 2) (.string ⟨#[]⟩))) := by
  have hzc : (Builtin.zeroCells (Value.agg #[.string ⟨#[]⟩, .string ⟨#[]⟩]).cells n).toList = List.replicate (n * 2) (.string ⟨#[]⟩) := by
    show (Builtin.zeroCells #[.string ⟨#[]⟩, .string ⟨#[]⟩] n).toList = _
    simp [Builtin.zeroCells]
    apply List.ext_getElem
    · simp
    · intro i h1 h2
      have : i % 2 = 0 ∨ i % 2 = 1 := by omega
      rcases this with h | h <;> simp [h]
  have hst := run_storeCells_cells (P := Tryz.prog) b o (List.replicate (n * 2) (.string ⟨#[]⟩)) 0 w (by simpa using hc) (by simpa using hf) (by intro v hv'; rw [List.eq_of_mem_replicate hv']; rfl)
  simp only [Nat.add_zero] at hst
  have hv : (zeroValue 63).run Tryz.prog w = .ok (.agg #[.string ⟨#[]⟩, .string ⟨#[]⟩]) w := by kernel_rfl
  obtain ⟨m, rfl⟩ : ∃ m, n = m + 1 := ⟨n - 1, by omega⟩
  simp [Builtin.clear_, run_underlying Tryz.underlying61, hv, hzc, hst]
theorem pairCells_at : ∀ (l : List Pair) (rest : List Value) (j : Nat) (x : Pair), l[j]? = some x → (pairCells l ++ rest)[j * 2]? = some (.string x.1) ∧ (pairCells l ++ rest)[j * 2 + 1]? = some (.string x.2)
  | [], _, j, x, h => by simp at h
  | y :: l, rest, 0, x, h => by
    injection h with h
    subst h
    exact ⟨rfl, rfl⟩
  | y :: l, rest, j + 1, x, h => by
    have := pairCells_at l rest j x h
    rw [show (j + 1) * 2 = j * 2 + 2 by omega]
    exact this
theorem pairCells_set : ∀ (l : List Pair) (rest : List Value) (i : Nat) (x : Pair), i < l.length → ((pairCells l ++ rest).set (i * 2) (.string x.1)).set (i * 2 + 1) (.string x.2) = pairCells (l.set i x) ++ rest
  | [], _, i, x, h => by simp at h
  | y :: l, rest, 0, x, h => rfl
  | y :: l, rest, i + 1, x, h => by
    have := pairCells_set l rest i x (by simpa using h)
    rw [show (i + 1) * 2 = i * 2 + 2 by omega]
    show Value.string y.1 :: Value.string y.2 :: (((pairCells l ++ rest).set (i * 2) (.string x.1)).set (i * 2 + 1) (.string x.2)) = _
    rw [this]
    rfl
/-- A block that begins with these pairs. -/
def PairsAt (w : World) (g : Nat) (l : List Pair) : Prop := ∃ rest : List Value, w.heap[g]? = some (.cells (pairCells l ++ rest).toArray 63 (0, 0))
theorem PairsAt.cells {w : World} {g : Nat} {l : List Pair} (h : PairsAt w g l) {j : Nat} {x : Pair} (hx : l[j]? = some x) : w.cell? ⟨g, j * 2, none⟩ = some (.string x.1) ∧ w.cell? ⟨g, j * 2 + 1, none⟩ = some (.string x.2) := by
  obtain ⟨rest, h⟩ := h
  have hp := pairCells_at l rest j x hx
  constructor
  · rw [blk_cell h]; simpa using hp.1
  · rw [blk_cell h]; simpa using hp.2
theorem PairsAt.free {w : World} {g : Nat} {l : List Pair} (h : PairsAt w g l) (i : Nat) : w.frozen? ⟨g, i, none⟩ = false := by
  obtain ⟨rest, h⟩ := h
  exact blk_frozen h i
theorem PairsAt.below {w w1 : World} {g : Nat} {l : List Pair} (h : PairsAt w g l) (hb : Below w.heap.size w w1) : PairsAt w1 g l := by
  obtain ⟨rest, h⟩ := h
  exact ⟨rest, blk_below h hb⟩
theorem PairsAt.pairs {w : World} {g : Nat} {l : List Pair} (h : PairsAt w g l) : PairsIn w (some ⟨g, 0, none⟩) l := fun j x hx => by
  have := h.cells hx
  refine ⟨_, rfl, ?_, ?_⟩
  · rw [Addr.add_lit, Nat.zero_add]; exact this.1
  · rw [Addr.add_lit, Nat.zero_add]; exact this.2
theorem PairsAt.set {w : World} {g : Nat} {l : List Pair} (h : PairsAt w g l) {i : Nat} (hi : i < l.length) (x : Pair) :
    PairsAt ((w.setCell ⟨g, i * 2, none⟩ (.string x.1)).setCell ⟨g, i * 2 + 1, none⟩ (.string x.2)) g (l.set i x) := by
  obtain ⟨rest, h⟩ := h
  refine ⟨rest, ?_⟩
  rw [blk_set (blk_set h _ _)]
  congr 2
  rw [← pairCells_set l rest i x hi]
  simp
theorem below_setCells {B : Nat} {w0 w : World} (h : Below B w0 w) {g : Nat} (hg : B ≤ g) (o : Nat) (vs : List Value) : Below B w0 (w.setCells g o vs) := by
  obtain ⟨h1, h2, h3, h4⟩ := setCells_same g vs o w
  exact ⟨h1.trans h.os, h2.trans h.tape, h3.trans h.output, by rw [h4]; exact h.size, fun i hi => (setCells_far vs o i (by omega)).trans (h.block i hi)⟩
theorem take_set_self {α : Type} (l : List α) (i : Nat) (x : α) : (l.set i x).take i = l.take i := by
  rw [List.take_set, List.set_eq_of_length_le]
  rw [List.length_take]
  omega
/-- The declarations that stay. -/
def keepF (l : List Pair) : List Pair := l.filter fun x => safeF x.1.data.toList x.2.data.toList
set_option maxRecDepth 100000 in
set_option maxHeartbeats 3200000 in
theorem delete_any (g cap : Nat) (ps : List Pair) (w0 w : World) (hG : Good w0) (hw : Below w0.heap.size w0 w) (hg : w0.heap.size ≤ g) (hP : PairsAt w g ps) (hcap : ps.length ≤ cap) (hsz : ∀ x ∈ ps, x.2.size < 4294967281) (hlen : ps.length < 4294967281) :
    Calls Tryz.prog 67 #[.slice (some ⟨g, 0, none⟩) ps.length cap, .func (.func 69) #[] #[]] w fun e w' => (∃ A c, e = .returned (.slice A (keepF ps).length c) ∧ (keepF ps).length ≤ c ∧ PairsIn w' A (keepF ps)) ∧ Below w0.heap.size w0 w' := by
  have hglt : g < w.heap.size := by obtain ⟨rest, h⟩ := hP; exact blk_lt h
  have HG := Lib.hid hG
  have HP := Lib.hid hP
  have HW := Lib.hid hw
  have HZ := Lib.hid hsz
  have HI := Lib.hid (idx2_any 69 #[] (fun args w => by kernel_rfl) deadP (some ⟨g, 0, none⟩) cap ps w (by omega) hP.pairs (fun j x W hx hb => dead_any x W (hG.below (hw.trans (hb.mono hw.size))) (hsz x (List.mem_of_getElem? hx))))
  obtain ⟨n, hn⟩ : ∃ n, ps.length = n := ⟨_, rfl⟩
  clear hG hP hw hsz
  rw [hn] at HI hcap hlen ⊢
  by_cases hi : idxP deadP ps = -1
  · rw [hi] at HI
    have hk : keepF ps = ps := by
      unfold keepF
      rw [List.filter_eq_self]
      intro x hx
      unfold idxP at hi
      split at hi
      · omega
      · rename_i h
        rw [List.findIdx?_eq_none_iff] at h
        have := h x hx
        simpa [deadP] using this
    rw [hk, hn]
    clear hk hi
    go_enter Tryz.func67, Tryz.ntmps67
    go_wp2_with fail
    refine HI.out.mono ?_
    rintro e w1 ⟨rfl, hb⟩
    have HB1 := Lib.hid (HW.out.trans (hb.mono HW.out.size))
    have HP1 := Lib.hid (HP.out.below hb)
    clear hb
    go_wp2_with fail
    go_ret
    exact ⟨⟨_, _, rfl, hcap, HP1.out.pairs⟩, HB1.out⟩
  · obtain ⟨i0, hi0, hi1, hi2⟩ : ∃ i0 : Nat, idxP deadP ps = (i0 : Int) ∧ i0 < n ∧ keepF (ps.take (i0 + 1)) = ps.take i0 := by
      unfold idxP at hi ⊢
      split at hi
      · rename_i k hk
        rw [List.findIdx?_eq_some_iff_getElem] at hk
        obtain ⟨h1, h2, h3⟩ := hk
        refine ⟨k, rfl, by omega, ?_⟩
        unfold keepF
        rw [List.take_succ_eq_append_getElem h1, List.filter_append]
        have e1 : (ps.take k).filter (fun x => safeF x.1.data.toList x.2.data.toList) = ps.take k := by
          rw [List.filter_eq_self]
          intro x hx
          obtain ⟨j, hj, rfl⟩ := List.getElem_of_mem hx
          rw [List.length_take] at hj
          have := h3 j (by omega)
          rw [List.getElem_take]
          simpa [deadP] using this
        rw [e1]
        have e2 : safeF ps[k].1.data.toList ps[k].2.data.toList = false := by simpa [deadP] using h2
        simp [e2]
      · exact absurd rfl hi
    rw [hi0] at HI
    have hne : ((i0 : Int) == -1) = false := beq_eq_false_iff_ne.2 (by omega)
    have HK := Lib.hid hi2
    clear hi hi0 hi2
    go_enter Tryz.func67, Tryz.ntmps67
    go_wp2_with fail
    refine HI.out.mono ?_
    rintro e w1 ⟨rfl, hb⟩
    have HB1 := Lib.hid (HW.out.trans (hb.mono HW.out.size))
    have HP1 := Lib.hid (HP.out.below hb)
    clear hb
    go_wp2_with fail
    go_loopw [5, 6] (fun a b wr => Below w0.heap.size w0 wr ∧ ∃ (i j : Nat) (cur : List Pair), a = .int .i64 (i : Int) ∧ b = .int .i64 (j : Int) ∧ i < j ∧ j ≤ n ∧ cur.length = n ∧ Hid (PairsAt wr g cur) ∧ Hid (cur.take i = keepF (ps.take j)) ∧ Hid (cur.drop j = ps.drop j)) (fun _ b _ => n - (intOf b).toNat)
    case atStart => exact ⟨HB1.out, i0, i0 + 1, ps, rfl, rfl, by omega, by omega, hn, HP1, Lib.hid HK.out.symm, Lib.hid rfl⟩
    case round =>
      obtain ⟨hB, i, j, cur, rfl, rfl, hij, hjn, hcl, hC, hT, hD⟩ := hrel
      have HB := Lib.hid hB
      clear hB
      by_cases hlt : j < n
      · obtain ⟨x, hx⟩ : ∃ x, ps[j]? = some x := ⟨_, List.getElem?_eq_getElem (by omega)⟩
        have hcx : cur[j]? = some x := by
          have := congrArg (·[0]?) hD.out
          simp only [List.getElem?_drop, Nat.add_zero] at this
          rw [this, hx]
        obtain ⟨c0, c1⟩ := hC.out.cells hcx
        have HX := Lib.hid hx
        have hzx := HZ.out x (List.mem_of_getElem? hx)
        clear hx hcx
        have hBa : Below w0.heap.size w0 (wr.alloc (.cells #[.string x.1, .string x.2] 63)) := HB.out.alloc HB.out.size _
        have HDe := Lib.hid (dead_any x _ (HG.out.below hBa) hzx)
        have HBa := Lib.hid hBa
        have hBb : Below wr.heap.size wr (wr.alloc (.cells #[.string x.1, .string x.2] 63)) := (Below.refl _ _).alloc (Nat.le_refl _) _
        have HCa := Lib.hid (hC.out.below hBb)
        have HLa := Lib.hid (show (wr.alloc (.cells #[.string x.1, .string x.2] 63)).heap[wr.heap.size]? = some (.cells #[.string x.1, .string x.2] 63 (0, 0)) from blk_new _ _)
        clear hBa hBb hzx
        have hKx : keepF (ps.take (j + 1)) = keepF (ps.take j) ++ (if deadP x = true then [] else [x]) := by
          unfold keepF
          obtain ⟨hj2, he⟩ := List.getElem?_eq_some_iff.1 HX.out
          rw [List.take_succ_eq_append_getElem hj2, List.filter_append, he]
          cases hs : safeF x.1.data.toList x.2.data.toList <;> simp [deadP, hs]
        obtain ⟨dx, hdx⟩ : ∃ dx, deadP x = dx := ⟨_, rfl⟩
        rw [hdx] at HDe hKx
        cases dx with
        | true =>
          rw [if_pos rfl, List.append_nil] at hKx
          have HKx := Lib.hid hKx
          clear hKx hdx
          go_wp2_with fail
          refine HDe.out.mono ?_
          rintro e w2 ⟨rfl, hb⟩
          have HB2 := Lib.hid (HBa.out.trans (hb.mono HBa.out.size))
          have HC2 := Lib.hid (HCa.out.below hb)
          clear hb c0 c1
          go_wp2_with fail
          go_roundw
          case rel => exact ⟨HB2.out, i, j + 1, cur, rfl, by go_num, by omega, by omega, hcl, HC2, Lib.hid (by rw [hT.out, HKx.out]), Lib.hid (by have := congrArg (List.drop 1) hD.out; simpa [List.drop_drop, Nat.add_comm] using this)⟩
          case measure => simp [intOf]; omega
        | false =>
          rw [if_neg (by decide)] at hKx
          have HKx := Lib.hid hKx
          clear hKx hdx
          go_wp2_with fail
          refine HDe.out.mono ?_
          rintro e w2 ⟨rfl, hb⟩
          have HB2 := Lib.hid (HBa.out.trans (hb.mono HBa.out.size))
          have HC2 := Lib.hid (HCa.out.below hb)
          have hl := blk_below HLa.out hb
          have l0 : w2.cell? ⟨wr.heap.size, 0, none⟩ = some (.string x.1) := blk_cell hl 0
          have l1 : w2.cell? ⟨wr.heap.size, 1, none⟩ = some (.string x.2) := blk_cell hl 1
          clear hb c0 c1 hl
          obtain ⟨y, hy⟩ : ∃ y, cur[i]? = some y := ⟨_, List.getElem?_eq_getElem (by omega)⟩
          obtain ⟨d0, d1⟩ := HC2.out.cells hy
          have f0 := HC2.out.free (i * 2)
          have f1 := HC2.out.free (i * 2 + 1)
          have HC3 := Lib.hid (HC2.out.set (i := i) (by omega) x)
          have HB3 := Lib.hid (show Below w0.heap.size w0 ((w2.setCell ⟨g, i * 2, none⟩ (.string x.1)).setCell ⟨g, i * 2 + 1, none⟩ (.string x.2)) from (HB2.out.setCell (p := ⟨g, i * 2, none⟩) hg _).setCell (p := ⟨g, i * 2 + 1, none⟩) hg _)
          have HT3 := Lib.hid (show (cur.set i x).take (i + 1) = keepF (ps.take (j + 1)) from by
            rw [HKx.out, ← hT.out, List.take_succ_eq_append_getElem (by rw [List.length_set]; omega), take_set_self]
            simp)
          have HD3 := Lib.hid (show (cur.set i x).drop (j + 1) = ps.drop (j + 1) from by
            rw [List.drop_set_of_lt (by omega)]
            have := congrArg (List.drop 1) hD.out
            simpa [List.drop_drop, Nat.add_comm] using this)
          clear hy
          go_wp2_with fail
          go_roundw
          case rel => exact ⟨HB3.out, i + 1, j + 1, cur.set i x, by go_num, by go_num, by omega, by omega, by simp [hcl], HC3, HT3, HD3⟩
          case measure => simp [intOf]; omega
      · have hjn2 : j = n := by omega
        subst hjn2
        have hcells : ∀ q, q < (j - i) * 2 → (wr.cell? ⟨g, i * 2 + q, none⟩).isSome = true := fun q hq => by
          have hi3 : i + q / 2 < cur.length := by omega
          have := hC.out.cells (List.getElem?_eq_getElem hi3)
          rcases Nat.mod_two_eq_zero_or_one q with h | h
          · rw [show i * 2 + q = (i + q / 2) * 2 by omega, this.1]; rfl
          · rw [show i * 2 + q = (i + q / 2) * 2 + 1 by omega, this.2]; rfl
        have hclr : ∀ ty, (Builtin.clear_ #[61] ty #[.slice (some ⟨g, i * 2, none⟩) (j - i) (cap - i)]).run Tryz.prog wr = .ok (.tuple #[]) (wr.setCells g (i * 2) (List.replicate ((j - i) * 2) (.string ⟨#[]⟩))) :=
          fun ty => run_clear_two wr ty g (i * 2) (j - i) (cap - i) (by omega) hcells (fun q hq => hC.out.free _)
        have HKall := Lib.hid (show cur.take i = keepF ps from by rw [hT.out, ← hn, List.take_length])
        go_wp2_with fail
        go_ret
        have hlenk : (keepF ps).length = i := by rw [← HKall.out, List.length_take]; omega
        refine ⟨⟨some ⟨g, 0, none⟩, cap, by rw [hlenk]; rfl, by omega, fun q x hx => ?_⟩, below_setCells HB.out hg _ _⟩
        have hq : q < i := by rw [← hlenk]; exact (List.getElem?_eq_some_iff.1 hx).1
        rw [← HKall.out, List.getElem?_take_of_lt hq] at hx
        have := hC.out.cells hx
        refine ⟨_, rfl, ?_, ?_⟩
        · rw [Addr.add_lit, World.cell?_setCells_out g _ _ _ _ (fun _ _ => .inl (by show 0 + q * 2 < i * 2; omega)), Nat.zero_add]
          exact this.1
        · rw [Addr.add_lit, World.cell?_setCells_out g _ _ _ _ (fun _ _ => .inl (by show 0 + q * 2 + 1 < i * 2; omega)), Nat.zero_add]
          exact this.2
end Go.Proofs.YtchooidhieaphaaGreatDoor
set_option linter.unusedVariables false
set_option linter.unusedSimpArgs false
namespace Go.Proofs.YtchooidhieaphaaGreatDoor
open Go.RowKit Go.Proofs.YtchooidhieaphaaGreatDoorW.PrintWords
/-- The last declaration of each name. -/
def lastF : List (List UInt8 × List UInt8) → List (List UInt8 × List UInt8)
  | [] => []
  | d :: r => (if r.any (fun e => decide (e.1 = d.1)) = true then [] else [d]) ++ lastF r
def lineF (d : List UInt8 × List UInt8) : List UInt8 := d.1 ++ [58, 32] ++ d.2
def keptF (l : List UInt8) : List (List UInt8 × List UInt8) := (declsF l).filter fun p => safeF p.1 p.2
/-- What css.Clean tells. -/
def cssF (l : List UInt8) : List UInt8 := Lib.join ((lastF (keptF l)).map lineF) [59, 32]
theorem declF_le (l : List UInt8) (p : List UInt8 × List UInt8) (h : p ∈ declF l) : p.2.length ≤ l.length := by
  unfold declF at h
  split at h
  · cases h
  · rw [List.mem_singleton] at h
    subst h
    exact Nat.le_trans (trimS_le _ _) (cut_le _ _).2
theorem declsF_le : ∀ (n : Nat) (l : List UInt8), l.length = n → ∀ p ∈ declsF l, p.2.length ≤ l.length := by
  intro n
  induction n using Nat.strongRecOn with
  | _ n ih =>
  intro l hl p hp
  rw [declsF] at hp
  rcases List.mem_append.1 hp with h | h
  · have := declF_le _ p h
    rw [List.length_take] at this
    omega
  · split at h
    · have := ih (l.drop (endF l + 1)).length (by rw [List.length_drop]; omega) _ rfl p h
      rw [List.length_drop] at this
      omega
    · cases h
theorem keepF_map (ps : List Pair) : (keepF ps).map toL = (ps.map toL).filter fun p => safeF p.1 p.2 := by
  unfold keepF
  rw [List.filter_map]
  rfl
theorem safeF_sizes {n v : List UInt8} (h : safeF n v = true) : n.length ≤ 20 ∧ v.length ≤ 100 := by
  unfold safeF at h
  simp only [Bool.and_eq_true, decide_eq_true_eq] at h
  refine ⟨?_, h.2.2.1⟩
  have hall : ∀ x ∈ cssNames, x.length ≤ 20 := by decide
  exact hall n h.1
theorem join_len (xs : List (List UInt8)) (sep : List UInt8) (M : Nat) (h : ∀ x ∈ xs, x.length ≤ M) : (Lib.join xs sep).length ≤ xs.length * (M + sep.length) := by
  unfold Lib.join
  induction xs with
  | nil => simp
  | cons x r ih =>
    have h1 := h x List.mem_cons_self
    have h2 := ih (fun y hy => h y (List.mem_cons_of_mem _ hy))
    cases r with
    | nil => simp [List.intercalate]; omega
    | cons y r =>
      rw [List.intercalate_cons_cons]
      simp only [List.length_append, List.length_cons] at h2 ⊢
      rw [Nat.add_mul (r.length + 1) 1]
      omega
set_option maxRecDepth 100000 in
theorem delete_nil (A : Option Addr) (c : Nat) (w0 w : World) (hw : Below w0.heap.size w0 w) :
    Calls Tryz.prog 67 #[.slice A 0 c, .func (.func 69) #[] #[]] w fun e w' => (∃ A c, e = .returned (.slice A (keepF []).length c) ∧ (keepF []).length ≤ c ∧ PairsIn w' A (keepF [])) ∧ Below w0.heap.size w0 w' := by
  have HI := Lib.hid (idx2_any 69 #[] (fun args w => by kernel_rfl) deadP A c [] w (by simp) (fun j x hx => by simp at hx) (fun j x W hx => by simp at hx))
  have HW := Lib.hid hw
  clear hw
  go_enter Tryz.func67, Tryz.ntmps67
  go_wp2_with fail
  refine HI.out.mono ?_
  rintro e w1 ⟨rfl, hb⟩
  have HB1 := Lib.hid (HW.out.trans (hb.mono HW.out.size))
  clear hb
  go_wp2_with fail
  go_ret
  exact ⟨⟨_, _, rfl, Nat.zero_le _, fun j x hx => by simp [keepF] at hx⟩, HB1.out⟩
theorem del_any (v : Value) (ps : List Pair) (w0 w : World) (hG : Good w0) (hw : Below w0.heap.size w0 w) (ho : w.ownsRow w0.heap.size 63 2 v ps.length (pairCells ps)) (hsz : ∀ x ∈ ps, x.2.size < 4294967281) (hlen : ps.length < 4294967281) :
    Calls Tryz.prog 67 #[v, .func (.func 69) #[] #[]] w fun e w' => (∃ A c, e = .returned (.slice A (keepF ps).length c) ∧ (keepF ps).length ≤ c ∧ PairsIn w' A (keepF ps)) ∧ Below w0.heap.size w0 w' := by
  rcases ho.2 with ⟨rfl, h0⟩ | ⟨g, cap, cur, rfl, hg, hcur, hcap, hmax, hsize, htk⟩
  · have : ps = [] := List.length_eq_zero_iff.1 h0
    subst this
    exact delete_nil none 0 w0 w hw
  · refine delete_any g cap ps w0 w hG hw hg ⟨cur.toList.drop (ps.length * 2), ?_⟩ hcap hsz hlen
    rw [hcur, ← htk, List.take_append_drop]
theorem lineB (n v : ByteArray) : ((n ++ (⟨#[58, 32]⟩ : ByteArray)) ++ v).data.toList = lineF (n.data.toList, v.data.toList) := by
  simp [lineF, ByteArray.data_append]
def strCells (l : List ByteArray) : List Value := l.map .string
set_option maxRecDepth 100000 in
set_option maxHeartbeats 12800000 in
theorem cssClean_any (s : ByteArray) (w : World) (hG : Good w) (hs : s.size < 4294967200) :
    Calls Tryz.prog 45 #[.string s] w fun e w' => e = .returned (.string ⟨(cssF s.data.toList).toArray⟩) ∧ Below w.heap.size w w' := by
  obtain ⟨i9, hi, hz0, hz1, hz2⟩ := info_parts info9
  have HCut := Lib.hid (cssCut_any s w hG (by omega))
  have HG := Lib.hid hG
  have hmf : ∀ fn first cap w, (Instr.makeFunc fn first cap).run Tryz.prog w = .ok (.func fn first cap) w := fun _ _ _ _ => rfl
  clear hG
  go_enter Tryz.func45, Tryz.ntmps45
  go_wp2_with fail
  refine HCut.out.mono ?_
  rintro e w1 ⟨⟨v, ps, rfl, hps, hpl, hown⟩, hb⟩
  have HB1 := Lib.hid hb
  have hsz : ∀ x ∈ ps, x.2.size < 4294967281 := fun x hx => by
    have : toL x ∈ declsF s.data.toList := by rw [← hps]; exact List.mem_map_of_mem hx
    have := declsF_le _ _ rfl _ this
    rw [← Lib.size_eq] at this
    have e2 : (toL x).2.length = x.2.size := by rw [Lib.size_eq]; rfl
    omega
  have HD := Lib.hid (del_any v ps w w1 HG.out hb hown hsz (by omega))
  have hkl : (keepF ps).length ≤ ps.length := List.length_filter_le _ _
  have HK := Lib.hid (show (keepF ps).map toL = keptF s.data.toList by rw [keepF_map, hps]; rfl)
  have HSf := Lib.hid (show ∀ x ∈ keepF ps, x.1.size ≤ 20 ∧ x.2.size ≤ 100 from fun x hx => by
    have := safeF_sizes (List.mem_filter.1 hx).2
    rwa [← Lib.size_eq, ← Lib.size_eq] at this)
  obtain ⟨ks, hks⟩ : ∃ ks, keepF ps = ks := ⟨_, rfl⟩
  rw [hks] at HD hkl HK HSf
  have hkn : ks.length ≤ 4294967201 := by omega
  clear hb hown hsz hps hks hkl hpl HCut
  go_wp2_with fail
  refine HD.out.mono ?_
  rintro e w2 ⟨⟨A, c, rfl, hkc, hpi⟩, hb⟩
  have HB2 := Lib.hid hb
  have HPI := Lib.hid hpi
  clear hb hpi HD
  go_wp2_with fail
  go_loopw [4, 12] (fun v i wr => Below w2.heap.size w2 wr ∧ ∃ (k : Nat) (parts : List ByteArray), i = .int .i64 (k : Int) ∧ k ≤ ks.length ∧ parts.length ≤ k ∧ Hid (wr.ownsRow w2.heap.size 9 1 v parts.length (strCells parts)) ∧ Hid (∀ x ∈ parts, x.size ≤ 122) ∧ Hid (parts.map (·.data.toList) ++ (lastF ((ks.drop k).map toL)).map lineF = (lastF (ks.map toL)).map lineF)) (fun _ i _ => ks.length - (intOf i).toNat)
  case atStart => exact ⟨Below.refl _ _, 0, [], rfl, Nat.zero_le _, Nat.zero_le _, Lib.hid (World.ownsRow_nil _ _ _ _), Lib.hid (by simp), Lib.hid rfl⟩
  case round =>
    obtain ⟨hB, k, parts, rfl, hk, hpk, hO, hS, hL⟩ := hrel
    have HB := Lib.hid hB
    have hp := HPI.out.below hB
    clear hB
    by_cases hlt : k < ks.length
    · obtain ⟨x, hx⟩ : ∃ x, ks[k]? = some x := ⟨_, List.getElem?_eq_getElem hlt⟩
      obtain ⟨ad, rfl, c0, c1⟩ := hp k x hx
      have HX := Lib.hid hx
      have hsx := HSf.out x (List.mem_of_getElem? hx)
      have hBb : Below wr.heap.size wr (wr.alloc (.cells #[.string x.1, .string x.2] 63)) := (Below.refl _ _).alloc (Nat.le_refl _) _
      have hpd : PairsIn wr (some (ad.add ((k + 1) * 2))) (ks.drop (k + 1)) := fun j y hy => by
        rw [List.getElem?_drop] at hy
        obtain ⟨ad', e, y0, y1⟩ := hp (k + 1 + j) y hy
        injection e with e
        subst e
        refine ⟨_, rfl, ?_, ?_⟩
        · rw [Addr.add_add, ← Nat.add_mul]; exact y0
        · rw [Addr.add_add, ← Nat.add_mul]; exact y1
      have hcell : (wr.alloc (.cells #[.string x.1, .string x.2] 63)).cell? ⟨wr.heap.size, 0, none⟩ = some (.string x.1) := alloc_cell _ _ _ _ _ rfl
      have hdl : (ks.drop (k + 1)).length = ks.length - (k + 1) := List.length_drop ..
      have HCon := Lib.hid (fun (A' : Option Addr) (c' : Nat) (hA : PairsIn (wr.alloc (.cells #[.string x.1, .string x.2] 63)) A' (ks.drop (k + 1))) => by
        have := contains2_any 72 #[.pointer (some ⟨wr.heap.size, 0, none⟩)] (fun args w => by kernel_rfl) (fun y => decide (y.1.data.toList = x.1.data.toList)) A' c' (ks.drop (k + 1)) (wr.alloc (.cells #[.string x.1, .string x.2] 63)) (by omega) hA (fun j y W hy hb => same_any y x.1 wr.heap.size W (cell_later hb hcell))
        rwa [hdl] at this)
      have HPD := Lib.hid (hpd.below hBb)
      have HBB := Lib.hid (below_then' HB.out hBb)
      have HO1 := Lib.hid (hO.out.alloc (.cells #[.string x.1, .string x.2] 63))
      have HLa := Lib.hid (show (wr.alloc (.cells #[.string x.1, .string x.2] 63)).heap[wr.heap.size]? = some (.cells #[.string x.1, .string x.2] 63 (0, 0)) from blk_new _ _)
      have HNil := Lib.hid (fun (A' : Option Addr) (he : c = k + 1) => show PairsIn (wr.alloc (.cells #[.string x.1, .string x.2] 63)) A' (ks.drop (k + 1)) from fun j y hy => by
        rw [List.drop_of_length_le (by omega)] at hy
        simp at hy)
      have hlast : lastF ((ks.drop k).map toL) = (if (ks.drop (k + 1)).any (fun y => decide (y.1.data.toList = x.1.data.toList)) = true then [] else [toL x]) ++ lastF ((ks.drop (k + 1)).map toL) := by
        obtain ⟨hk2, he⟩ := List.getElem?_eq_some_iff.1 HX.out
        rw [List.drop_eq_getElem_cons hk2, he, List.map_cons, lastF, List.any_map]
        rfl
      obtain ⟨dup, hdup⟩ : ∃ dup, (ks.drop (k + 1)).any (fun y => decide (y.1.data.toList = x.1.data.toList)) = dup := ⟨_, rfl⟩
      rw [hdup] at HCon hlast
      have HLt := Lib.hid hlast
      clear hx hp hBb hpd hcell hdl hlast hdup
      cases dup with
      | true =>
        have HL2 := Lib.hid (show parts.map (·.data.toList) ++ (lastF ((ks.drop (k + 1)).map toL)).map lineF = (lastF (ks.map toL)).map lineF from by
          rw [← hL.out, HLt.out, if_pos rfl, List.nil_append])
        clear HLt
        by_cases hce : c = k + 1
        · have HN0 := Lib.hid (HCon.out (some ad) 0 (HNil.out (some ad) hce))
          clear HNil HCon HPD
          go_wp2_with fail
          refine HN0.out.mono ?_
          rintro e w3 ⟨rfl, hb⟩
          have HB3 := Lib.hid (below_then' HBB.out hb)
          have HO3 := Lib.hid (own_below HO1.out hb)
          clear hb
          go_wp2_with fail
          go_roundw
          case rel => subst hce; (repeat apply Exists.intro); refine ⟨?_, rfl⟩; exact ⟨HB3.out, k + 1, parts, by go_num, by omega, by omega, HO3, hS, HL2⟩
          case measure => simp [intOf]; omega
        · have HN0 := Lib.hid (HCon.out (some (ad.add ((k + 1) * 2))) (c - (k + 1)) HPD.out)
          clear HNil HCon HPD
          go_wp2_with fail
          refine HN0.out.mono ?_
          rintro e w3 ⟨rfl, hb⟩
          have HB3 := Lib.hid (below_then' HBB.out hb)
          have HO3 := Lib.hid (own_below HO1.out hb)
          clear hb
          go_wp2_with fail
          go_roundw
          case rel => exact ⟨HB3.out, k + 1, parts, by go_num, by omega, by omega, HO3, hS, HL2⟩
          case measure => simp [intOf]; omega
      | false =>
        have HL2 := Lib.hid (show (parts ++ [(x.1 ++ (⟨#[58, 32]⟩ : ByteArray)) ++ x.2]).map (·.data.toList) ++ (lastF ((ks.drop (k + 1)).map toL)).map lineF = (lastF (ks.map toL)).map lineF from by
          rw [← hL.out, HLt.out, if_neg (by decide), List.map_append, List.map_append, List.append_assoc, List.map_cons, List.map_nil, lineB]
          rfl)
        clear HLt
        by_cases hce : c = k + 1
        · have HN0 := Lib.hid (HCon.out (some ad) 0 (HNil.out (some ad) hce))
          clear HNil HCon HPD
          go_wp2_with fail
          refine HN0.out.mono ?_
          rintro e w3 ⟨rfl, hb⟩
          have HB3 := Lib.hid (below_then' HBB.out hb)
          have HO3 := Lib.hid (own_below HO1.out hb)
          have hl := blk_below HLa.out hb
          have l0 : w3.cell? ⟨wr.heap.size, 0, none⟩ = some (.string x.1) := blk_cell hl 0
          have l1 : w3.cell? ⟨wr.heap.size, 1, none⟩ = some (.string x.2) := blk_cell hl 1
          obtain ⟨sx1, sx2⟩ := hsx
          clear hb hl
          go_wp2_with (at_builtin; go_loud (refine wpList_append_own _ rfl _ _ 73 rfl w2.heap.size 9 i9 (.string ⟨#[]⟩) 1 16 Tryz.underlying73 hi hz0 hz1 hz2 rfl (by decide) u4 parts.length (strCells parts) rfl (HO3.out.alloc _) ⟨w3.heap.size, 0, none⟩ 1 1 [.string ((x.1 ++ (⟨#[58, 32]⟩ : ByteArray)) ++ x.2)] rfl rfl ?c1 ?c2 ?c3 ?c4 ?c5 ?_))
          case c1 =>
            intro j u hj
            rw [Addr.add_lit]
            match j, hj with
            | 0, hj => exact alloc_cell _ _ _ _ _ hj
            | j + 1, hj => simp at hj
          case c2 => intro u hu; rcases List.mem_cons.1 hu with rfl | hu; rfl; cases hu
          case c3 => unfold maxLen; omega
          case c4 => omega
          case c5 => have := HB3.out.size; rw [alloc_size]; omega
          intro v' w4 hown hgr _
          have hown2 : w4.ownsRow w2.heap.size 9 1 v' (parts ++ [(x.1 ++ (⟨#[58, 32]⟩ : ByteArray)) ++ x.2]).length (strCells (parts ++ [(x.1 ++ (⟨#[58, 32]⟩ : ByteArray)) ++ x.2])) := by
            rw [List.length_append]
            unfold strCells
            rw [List.map_append]
            exact hown
          have HO4 := Lib.hid hown2
          have HB4 := Lib.hid (show Below w2.heap.size w2 w4 from (HB3.out.alloc HB3.out.size _).grown hgr (by have := HB3.out.size; rw [alloc_size]; omega) (fun q hq => (HO3.out.lt q hq).1))
          have HS4 := Lib.hid (show ∀ y ∈ parts ++ [(x.1 ++ (⟨#[58, 32]⟩ : ByteArray)) ++ x.2], y.size ≤ 122 from fun y hy => by
            rcases List.mem_append.1 hy with h | h
            · exact hS.out y h
            · rw [List.mem_singleton] at h
              subst h
              rw [ByteArray.size_append, ByteArray.size_append]
              have : (⟨#[58, 32]⟩ : ByteArray).size = 2 := rfl
              omega)
          clear hown hown2 hgr
          go_wp2_with fail
          go_roundw
          case rel => subst hce; (repeat apply Exists.intro); refine ⟨?_, rfl⟩; exact ⟨HB4.out, k + 1, parts ++ [(x.1 ++ (⟨#[58, 32]⟩ : ByteArray)) ++ x.2], by go_num, by omega, by simp; omega, HO4, HS4, HL2⟩
          case measure => simp [intOf]; omega
        · have HN0 := Lib.hid (HCon.out (some (ad.add ((k + 1) * 2))) (c - (k + 1)) HPD.out)
          clear HNil HCon HPD
          go_wp2_with fail
          refine HN0.out.mono ?_
          rintro e w3 ⟨rfl, hb⟩
          have HB3 := Lib.hid (below_then' HBB.out hb)
          have HO3 := Lib.hid (own_below HO1.out hb)
          have hl := blk_below HLa.out hb
          have l0 : w3.cell? ⟨wr.heap.size, 0, none⟩ = some (.string x.1) := blk_cell hl 0
          have l1 : w3.cell? ⟨wr.heap.size, 1, none⟩ = some (.string x.2) := blk_cell hl 1
          obtain ⟨sx1, sx2⟩ := hsx
          clear hb hl
          go_wp2_with (at_builtin; go_loud (refine wpList_append_own _ rfl _ _ 73 rfl w2.heap.size 9 i9 (.string ⟨#[]⟩) 1 16 Tryz.underlying73 hi hz0 hz1 hz2 rfl (by decide) u4 parts.length (strCells parts) rfl (HO3.out.alloc _) ⟨w3.heap.size, 0, none⟩ 1 1 [.string ((x.1 ++ (⟨#[58, 32]⟩ : ByteArray)) ++ x.2)] rfl rfl ?c1 ?c2 ?c3 ?c4 ?c5 ?_))
          case c1 =>
            intro j u hj
            rw [Addr.add_lit]
            match j, hj with
            | 0, hj => exact alloc_cell _ _ _ _ _ hj
            | j + 1, hj => simp at hj
          case c2 => intro u hu; rcases List.mem_cons.1 hu with rfl | hu; rfl; cases hu
          case c3 => unfold maxLen; omega
          case c4 => omega
          case c5 => have := HB3.out.size; rw [alloc_size]; omega
          intro v' w4 hown hgr _
          have hown2 : w4.ownsRow w2.heap.size 9 1 v' (parts ++ [(x.1 ++ (⟨#[58, 32]⟩ : ByteArray)) ++ x.2]).length (strCells (parts ++ [(x.1 ++ (⟨#[58, 32]⟩ : ByteArray)) ++ x.2])) := by
            rw [List.length_append]
            unfold strCells
            rw [List.map_append]
            exact hown
          have HO4 := Lib.hid hown2
          have HB4 := Lib.hid (show Below w2.heap.size w2 w4 from (HB3.out.alloc HB3.out.size _).grown hgr (by have := HB3.out.size; rw [alloc_size]; omega) (fun q hq => (HO3.out.lt q hq).1))
          have HS4 := Lib.hid (show ∀ y ∈ parts ++ [(x.1 ++ (⟨#[58, 32]⟩ : ByteArray)) ++ x.2], y.size ≤ 122 from fun y hy => by
            rcases List.mem_append.1 hy with h | h
            · exact hS.out y h
            · rw [List.mem_singleton] at h
              subst h
              rw [ByteArray.size_append, ByteArray.size_append]
              have : (⟨#[58, 32]⟩ : ByteArray).size = 2 := rfl
              omega)
          clear hown hown2 hgr
          go_wp2_with fail
          go_roundw
          case rel => exact ⟨HB4.out, k + 1, parts ++ [(x.1 ++ (⟨#[58, 32]⟩ : ByteArray)) ++ x.2], by go_num, by omega, by simp; omega, HO4, HS4, HL2⟩
          case measure => simp [intOf]; omega
    · have hkl : k = ks.length := by omega
      have hF : cssF s.data.toList = Lib.join (parts.map (·.data.toList)) [59, 32] := by
        unfold cssF
        have := hL.out
        rw [hkl, List.drop_length, List.map_nil, lastF, List.map_nil, List.append_nil] at this
        rw [this, ← HK.out]
      have hjl : (Lib.join (parts.map (·.data.toList)) (⟨#[59, 32]⟩ : ByteArray).data.toList).length ≤ 140737488355328 := by
        have h1 := join_len (parts.map (·.data.toList)) [59, 32] 122 (fun y hy => by
          obtain ⟨z, hz, rfl⟩ := List.mem_map.1 hy
          rw [← Lib.size_eq]
          exact hS.out z hz)
        rw [List.length_map] at h1
        have h2 : ([59, 32] : List UInt8).length = 2 := rfl
        rw [h2] at h1
        have h3 : parts.length * (122 + 2) ≤ 4294967201 * 124 := Nat.mul_le_mul (by omega) (by omega)
        exact Nat.le_trans h1 (by omega)
      have HJ : Hid (Calls Tryz.prog 73 #[u4, .string ⟨#[59, 32]⟩] wr fun e w' => e = .returned (.string ⟨(cssF s.data.toList).toArray⟩) ∧ Below wr.heap.size wr w') := by
        rcases hO.out.2 with ⟨e1, h0⟩ | ⟨g, cap, cur, e1, hg, hcur, hcap, hmax, hsize, htk⟩
        · rw [e1]
          refine (Tryz.strings_Join_none none 0 ⟨#[59, 32]⟩ wr).mono fun e w' h => ⟨?_, h.2 ▸ Below.refl _ _⟩
          rw [h.1, hF, List.length_eq_zero_iff.1 h0]
          rfl
        · rw [e1, hF]
          refine Tryz.strings_Join g 0 cap parts ⟨#[59, 32]⟩ wr (fun j x hx => ?_) (blk_lt hcur) (by omega) hcap hjl
          have hj : j < parts.length := (List.getElem?_eq_some_iff.1 hx).1
          rw [Nat.zero_add, blk_cell hcur]
          have : (strCells parts)[j]? = some (.string x) := by simp [strCells, hx]
          rw [← htk, List.getElem?_take_of_lt (by omega)] at this
          simpa using this
      clear hF hjl
      go_wp2_with fail
      refine HJ.out.mono ?_
      rintro e w3 ⟨rfl, hb⟩
      have HB3 := Lib.hid (below_then' HB2.out (below_then' HB.out hb))
      clear hb
      go_wp2_with fail
      go_ret
      exact ⟨rfl, HB3.out⟩
end Go.Proofs.YtchooidhieaphaaGreatDoor
