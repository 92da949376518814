/- A cleaned style cleans to itself: plain lists of bytes, no program. -/
import Derived.Test.YtchooidhieaphaaGreatDoorAgainFacts
set_option linter.unusedVariables false
set_option linter.unusedSimpArgs false
namespace Go.Proofs.YtchooidhieaphaaGreatDoor
open Go.RowKit PRulesValues

/-- A byte that neither ends, opens, quotes nor escapes. -/
def plainB (c : UInt8) : Bool := !(c == 34 || c == 39 || c == 40 || c == 92 || c == 59)
theorem endG_plain : ∀ (l : List UInt8), l.all plainB = true → endG false [] l = l.length
  | [], _ => rfl
  | c :: l, h => by
    rw [List.all_cons, Bool.and_eq_true] at h
    have hc := h.1
    have h1 : ¬ (c = 34 ∨ c = 39) := by intro hh; rcases hh with rfl | rfl <;> exact absurd hc (by decide)
    have h2 : ¬ c = 40 := by rintro rfl; exact absurd hc (by decide)
    have h3 : ¬ c = 59 := by rintro rfl; exact absurd hc (by decide)
    unfold endG
    rw [if_neg (fun hh => absurd hh.1 (by decide)), if_neg (by show ¬ (false = true); decide), if_neg (by decide), if_neg h1, if_neg h2, if_neg (fun hh => h3 hh.1), endG_plain l h.2]
    rfl
theorem endG_stop : ∀ (l q : List UInt8), l.all plainB = true → endG false [] (l ++ 59 :: q) = l.length
  | [], q, _ => by
    show endG false [] (59 :: q) = 0
    unfold endG
    rw [if_neg (fun hh => absurd hh.1 (by decide)), if_neg (by show ¬ (false = true); decide), if_neg (by decide), if_neg (by decide), if_neg (by decide), if_pos ⟨rfl, rfl⟩]
  | c :: l, q, h => by
    rw [List.all_cons, Bool.and_eq_true] at h
    have hc := h.1
    have h1 : ¬ (c = 34 ∨ c = 39) := by intro hh; rcases hh with rfl | rfl <;> exact absurd hc (by decide)
    have h2 : ¬ c = 40 := by rintro rfl; exact absurd hc (by decide)
    have h3 : ¬ c = 59 := by rintro rfl; exact absurd hc (by decide)
    rw [List.cons_append]
    unfold endG
    rw [if_neg (fun hh => absurd hh.1 (by decide)), if_neg (by show ¬ (false = true); decide), if_neg (by decide), if_neg h1, if_neg h2, if_neg (fun hh => h3 hh.1), endG_stop l q h.2]
    rfl
theorem index_at : ∀ (l q : List UInt8) (c : UInt8), c ∉ l → Lib.index (l ++ c :: q) [c] = (l.length : Int)
  | [], q, c, _ => by simp [Lib.index]
  | a :: l, q, c, h => by
    have hne : ¬ c = a := fun e => h (by simp [e])
    have ih := index_at l q c (fun hm => h (List.mem_cons_of_mem _ hm))
    rw [List.cons_append]
    unfold Lib.index
    have hp : ([c] : List UInt8).isPrefixOf (a :: (l ++ c :: q)) = false := by
      show (c == a && ([] : List UInt8).isPrefixOf (l ++ c :: q)) = false
      rw [beq_eq_false_iff_ne.2 hne]
      rfl
    rw [hp, ih]
    simp only [Bool.false_eq_true, if_false]
    have : ((l.length : Int) == -1) = false := beq_eq_false_iff_ne.2 (by omega)
    rw [this]
    simp
theorem cut_at (l q : List UInt8) (c : UInt8) (h : c ∉ l) : Lib.cut (l ++ c :: q) [c] = (l, q, true) := by
  unfold Lib.cut
  rw [index_at l q c h, if_pos (by omega), Int.toNat_natCast, List.take_left' rfl]
  have : (l ++ c :: q).drop (l.length + [c].length) = q := by
    rw [show l ++ c :: q = (l ++ [c]) ++ q by simp]
    exact List.drop_left' (by rw [List.length_append])
  rw [this]
/-- A declaration that css.Clean may print. -/
structure Good2 (d : List UInt8 × List UInt8) : Prop where
  name : d.1 ∈ cssNames
  safe : safeF d.1 d.2 = true
  ends : Ends ws5 d.2
set_option maxRecDepth 100000 in
theorem names_plain : ∀ n ∈ cssNames, n.all (fun c => plainB c && !(c == 58)) = true ∧ n.map smallB = n ∧ n ≠ [] ∧ (∀ a, n.head? = some a → a ∉ ws5) ∧ (∀ a, n.getLast? = some a → a ∉ ws5) := by
  have h : cssNames.all (fun n => n.all (fun c => plainB c && !(c == 58)) && (decide (n.map smallB = n) && (decide (n ≠ []) && (!(ws5.contains (n.headD 0)) && !(ws5.contains (n.getLastD 0)))))) = true := by decide +kernel
  intro n hn
  have := List.all_eq_true.1 h n hn
  simp only [Bool.and_eq_true, decide_eq_true_eq] at this
  obtain ⟨h1, h2, h3, h4, h5⟩ := this
  refine ⟨h1, h2, h3, fun a ha => ?_, fun a ha => ?_⟩
  · have e : n.headD 0 = a := by cases n with | nil => simp at ha | cons b n => simpa using ha
    rw [e] at h4
    simpa using h4
  · have e : n.getLastD 0 = a := by rw [List.getLastD_eq_getLast?, ha]; rfl
    rw [e] at h5
    simpa using h5
theorem dropWhile_nil (p : UInt8 → Bool) : ∀ (l : List UInt8), l.dropWhile p = [] → ∀ c ∈ l, p c = true
  | [], _, c, hc => by cases hc
  | a :: l, h, c, hc => by
    cases ha : p a with
    | true =>
      rw [List.dropWhile_cons_of_pos ha] at h
      rcases List.mem_cons.1 hc with rfl | hc
      · exact ha
      · exact dropWhile_nil p l h c hc
    | false =>
      rw [List.dropWhile_cons_of_neg (by simp [ha])] at h
      cases h
theorem mem_take (p : UInt8 → Bool) : ∀ (l : List UInt8), ∀ c ∈ l.takeWhile p, p c = true
  | [], c, hc => by cases hc
  | a :: l, c, hc => by
    cases ha : p a with
    | true =>
      rw [List.takeWhile_cons_of_pos ha] at hc
      rcases List.mem_cons.1 hc with rfl | hc
      · exact ha
      · exact mem_take p l c hc
    | false =>
      rw [List.takeWhile_cons_of_neg (by simp [ha])] at hc
      cases hc
theorem trim_none (v cs : List UInt8) (h : Lib.trimS v cs = []) : ∀ c ∈ v, c ∈ cs := by
  unfold Lib.trimS Lib.trimLeftS at h
  have hr : ∀ c ∈ Lib.trimRightS v cs, c ∈ cs := by
    intro c hc
    have := dropWhile_nil _ _ h c hc
    simpa using this
  unfold Lib.trimRightS at hr
  intro c hc
  have hs : v.reverse = v.reverse.takeWhile (fun x => cs.contains x) ++ v.reverse.dropWhile (fun x => cs.contains x) := (List.takeWhile_append_dropWhile).symm
  have hc2 : c ∈ v.reverse := by simpa using hc
  rw [hs] at hc2
  rcases List.mem_append.1 hc2 with h1 | h1
  · have := mem_take _ _ c h1
    simpa using this
  · exact hr c (by simpa using h1)

theorem trim_pad {t : List UInt8} (h : Ends ws5 t) (hne : t ≠ []) : Lib.trimS (32 :: t) ws5 = t := by
  have h1 : Lib.trimRightS (32 :: t) ws5 = 32 :: t := by
    unfold Lib.trimRightS
    rw [dropWhile_id _ (32 :: t).reverse (fun a ha => by
      rw [List.head?_reverse, show (32 :: t : List UInt8) = [32] ++ t from rfl, List.getLast?_append, List.getLast?_eq_some_getLast hne] at ha
      have := h.2 (t.getLast hne) (List.getLast?_eq_some_getLast hne)
      have e : t.getLast hne = a := by simpa using ha
      rw [← e]
      simpa using this), List.reverse_reverse]
  unfold Lib.trimS
  rw [h1]
  unfold Lib.trimLeftS
  rw [List.dropWhile_cons_of_pos (by decide)]
  exact dropWhile_id _ t (fun a ha => by simpa using h.1 a ha)
theorem trim_padded {t : List UInt8} (h : Ends ws5 t) (hne : t ≠ []) {pad : List UInt8} (hp : pad = [] ∨ pad = [32]) : Lib.trimS (pad ++ t) ws5 = t := by
  rcases hp with rfl | rfl
  · exact trimS_id h
  · exact trim_pad h hne
theorem alpha_plain : ∀ c ∈ alpha, plainB c = true := by decide
theorem safe_parts {n v : List UInt8} (h : safeF n v = true) : n ∈ cssNames ∧ v ≠ [] ∧ v.all plainB = true := by
  unfold safeF at h
  simp only [Bool.and_eq_true, decide_eq_true_eq] at h
  obtain ⟨h1, h2, _, h4⟩ := h
  exact ⟨h1, h2, List.all_eq_true.2 fun c hc => alpha_plain c (trim_none v alpha h4 c hc)⟩
theorem line_plain {d : List UInt8 × List UInt8} (h : Good2 d) {pad : List UInt8} (hp : pad = [] ∨ pad = [32]) : (pad ++ lineF d).all plainB = true := by
  have hn := (names_plain d.1 h.name).1
  have hn2 : d.1.all plainB = true := List.all_eq_true.2 fun c hc => by
    have := List.all_eq_true.1 hn c hc
    rw [Bool.and_eq_true] at this
    exact this.1
  have hv := (safe_parts h.safe).2.2
  have hpp : pad.all plainB = true := by rcases hp with rfl | rfl <;> decide
  unfold lineF
  rw [List.all_append, List.all_append, List.all_append, hpp, hn2, hv]
  decide
theorem line_decl {d : List UInt8 × List UInt8} (h : Good2 d) {pad : List UInt8} (hp : pad = [] ∨ pad = [32]) : declF (pad ++ lineF d) = [d] := by
  obtain ⟨hn, hsm, hne, hh, hl⟩ := names_plain d.1 h.name
  have hv := safe_parts h.safe
  have h58 : (58 : UInt8) ∉ pad ++ d.1 := by
    intro hm
    rcases List.mem_append.1 hm with hm | hm
    · rcases hp with rfl | rfl
      · cases hm
      · exact absurd hm (by decide)
    · have := List.all_eq_true.1 hn 58 hm
      exact absurd this (by decide)
  have hc : Lib.cut (pad ++ lineF d) [58] = (pad ++ d.1, 32 :: d.2, true) := by
    rw [show pad ++ lineF d = (pad ++ d.1) ++ 58 :: (32 :: d.2) by simp [lineF]]
    exact cut_at _ _ _ h58
  have hN : declN (pad ++ lineF d) = d.1 := by
    unfold declN
    rw [hc]
    show (Lib.trimS (pad ++ d.1) ws5).map smallB = d.1
    rw [trim_padded ⟨hh, hl⟩ hne hp, hsm]
  have hV : declV (pad ++ lineF d) = d.2 := by
    unfold declV
    rw [hc]
    exact trim_pad h.ends hv.2.1
  unfold declF
  rw [hN, hV, if_neg (fun hh => hh.elim hne hv.2.1)]
theorem decls_join : ∀ (ds : List (List UInt8 × List UInt8)), (∀ d ∈ ds, Good2 d) → ds ≠ [] → ∀ pad : List UInt8, (pad = [] ∨ pad = [32]) → declsF (pad ++ Lib.join (ds.map lineF) [59, 32]) = ds
  | [], _, h, _, _ => absurd rfl h
  | [d], hg, _, pad, hp => by
    have hd := hg d List.mem_cons_self
    have he : endF (pad ++ lineF d) = (pad ++ lineF d).length := endG_plain _ (line_plain hd hp)
    rw [List.map_cons, List.map_nil, Lib.join_one, declsF, he, dif_neg (Nat.lt_irrefl _), List.take_length, line_decl hd hp]
    rfl
  | d :: d' :: r, hg, _, pad, hp => by
    have hd := hg d List.mem_cons_self
    have ih := decls_join (d' :: r) (fun x hx => hg x (List.mem_cons_of_mem _ hx)) (by simp) [32] (.inr rfl)
    have hj : pad ++ Lib.join ((d :: d' :: r).map lineF) [59, 32] = (pad ++ lineF d) ++ 59 :: ([32] ++ Lib.join ((d' :: r).map lineF) [59, 32]) := by
      unfold Lib.join
      simp [List.intercalate_cons_cons]
    rw [hj]
    have hld := line_decl hd hp
    have hlp := line_plain hd hp
    generalize pad ++ lineF d = X at hld hlp ⊢
    generalize [32] ++ Lib.join ((d' :: r).map lineF) [59, 32] = Y at ih ⊢
    have he : endF (X ++ 59 :: Y) = X.length := endG_stop _ _ hlp
    have hdr : (X ++ 59 :: Y).drop (X.length + 1) = Y := by
      rw [show X ++ 59 :: Y = (X ++ [59]) ++ Y by rw [List.append_assoc]; rfl]
      exact List.drop_left' (by rw [List.length_append]; rfl)
    rw [declsF, he, List.take_left' rfl, hld, dif_pos (by rw [List.length_append, List.length_cons]; omega), hdr, ih]
    rfl

theorem decl_ends (l : List UInt8) (p : List UInt8 × List UInt8) (h : p ∈ declF l) : Ends ws5 p.2 := by
  unfold declF at h
  split at h
  · cases h
  · rw [List.mem_singleton] at h
    subst h
    exact trimS_ends _ _
theorem decls_ends : ∀ (n : Nat) (l : List UInt8), l.length = n → ∀ p ∈ declsF l, Ends ws5 p.2 := by
  intro n
  induction n using Nat.strongRecOn with
  | _ n ih =>
  intro l hl p hp
  rw [declsF] at hp
  rcases List.mem_append.1 hp with h | h
  · exact decl_ends _ p h
  · split at h
    · exact ih (l.drop (endF l + 1)).length (by rw [List.length_drop]; omega) _ rfl p h
    · cases h
theorem last_mem : ∀ (r : List (List UInt8 × List UInt8)) (d : List UInt8 × List UInt8), d ∈ lastF r → d ∈ r
  | [], d, h => by cases h
  | e :: r, d, h => by
    unfold lastF at h
    rcases List.mem_append.1 h with h | h
    · split at h
      · cases h
      · rw [List.mem_singleton] at h
        rw [h]; exact List.mem_cons_self
    · exact List.mem_cons_of_mem _ (last_mem r d h)
theorem last_names (n : List UInt8) : ∀ (r : List (List UInt8 × List UInt8)), (lastF r).any (fun e => decide (e.1 = n)) = r.any (fun e => decide (e.1 = n))
  | [] => rfl
  | d :: r => by
    have ih := last_names n r
    unfold lastF
    rw [List.any_append, ih, List.any_cons]
    by_cases hd : r.any (fun e => decide (e.1 = d.1)) = true
    · rw [if_pos hd]
      by_cases e : d.1 = n
      · rw [← e, hd]; simp
      · simp [e]
    · rw [if_neg hd]
      simp
theorem last_again : ∀ (r : List (List UInt8 × List UInt8)), lastF (lastF r) = lastF r
  | [] => rfl
  | d :: r => by
    have ih := last_again r
    have e1 : lastF (d :: r) = (if r.any (fun e => decide (e.1 = d.1)) = true then [] else [d]) ++ lastF r := rfl
    rw [e1]
    by_cases hd : r.any (fun e => decide (e.1 = d.1)) = true
    · rw [if_pos hd, List.nil_append, ih]
    · rw [if_neg hd, List.singleton_append]
      show (if (lastF r).any (fun e => decide (e.1 = d.1)) = true then [] else [d]) ++ lastF (lastF r) = d :: lastF r
      rw [last_names, if_neg hd, ih]
      rfl
theorem good_last (v : List UInt8) : ∀ d ∈ lastF (keptF v), Good2 d := by
  intro d hd
  have h1 := last_mem _ d hd
  unfold keptF at h1
  have h2 := List.mem_filter.1 h1
  exact ⟨(safe_parts h2.2).1, h2.2, decls_ends _ v rfl d h2.1⟩
theorem css_nil : cssF [] = [] := by
  unfold cssF keptF
  rw [declsF, dif_neg (by simp)]
  decide
theorem css_again (v : List UInt8) : cssF (cssF v) = cssF v := by
  by_cases h : lastF (keptF v) = []
  · have : cssF v = [] := by unfold cssF; rw [h]; rfl
    rw [this, css_nil]
  · have hk : keptF (cssF v) = lastF (keptF v) := by
      unfold cssF
      have hj := decls_join (lastF (keptF v)) (good_last v) h [] (.inl rfl)
      rw [List.nil_append] at hj
      rw [keptF.eq_1 (Lib.join _ _), hj, List.filter_eq_self]
      intro d hd
      exact (good_last v d hd).safe
    rw [cssF.eq_1 (cssF v), hk, last_again]
    rfl
theorem style_again (b : Bool) (v : List UInt8) (h : (styleF b v).2 = true) : styleF b (styleF b v).1 = ((styleF b v).1, true) := by
  show (cssF (cssF v), b && decide (¬ cssF (cssF v) = [])) = (cssF v, true)
  rw [css_again]
  congr 1
end Go.Proofs.YtchooidhieaphaaGreatDoor
