/-
  Plain laws: what the functions compute answers as the statement says. No condition beyond those that each statement names.
-/
import Derived.Test.YtcakpkdeojhacaaL1
noncomputable section
namespace Go.Proofs.Ytcakpkdeojhacaa.l3
open Go.R l1
set_option linter.unusedVariables false
def blankN : Bool → List UInt8 → Bool
  | _, [] => true
  | inn, c :: s => if c = 10 then blankN false s else if c = 35 then blankN true s else if inn = false ∧ c ≠ 32 ∧ c ≠ 9 ∧ c ≠ 13 then false else blankN inn s
theorem blank_spl : ∀ (s : List UInt8) (b : Bool), blankN b (s.take (spl b s)) = true
  | [], b => by simp [blankN]
  | c :: s, false => by
    rw [spl]
    split
    · rename_i h
      rw [Nat.add_comm, List.take_succ_cons, blankN]
      rcases h with rfl | rfl | rfl | rfl
      · simpa using blank_spl s false
      · simpa using blank_spl s false
      · simpa using blank_spl s false
      · simpa using blank_spl s false
    · split
      · rename_i h; subst h
        rw [Nat.add_comm, List.take_succ_cons, blankN]
        simpa using blank_spl s true
      · rfl
  | c :: s, true => by
    rw [spl]
    split
    · rename_i h; subst h
      rw [Nat.add_comm, List.take_succ_cons, blankN]
      simpa using blank_spl s false
    · rename_i h
      rw [Nat.add_comm, List.take_succ_cons, blankN, if_neg h]
      have := blank_spl s true
      split
      · exact this
      · simpa using this
theorem blank_all {s : List UInt8} {n : Nat} (h : n ≤ s.length) (e : s.length ≤ n + spl false (s.drop n)) : blankN false (s.drop n) = true := by
  have h1 := blank_spl (s.drop n) false
  rwa [List.take_of_length_le (by rw [List.length_drop]; omega)] at h1
/-- The text of a token is what the text begins with. -/
theorem firstK_text {s : List UInt8} (h : (firstK s).2.2 = 0) : (firstK s).2.1 = s.take (firstK s).2.1.length := by
  have key : ∀ n, s.take n = s.take (s.take n).length := fun n => by
    rw [List.length_take]
    rcases Nat.le_total n s.length with h | h
    · rw [Nat.min_eq_left h]
    · rw [Nat.min_eq_right h, List.take_of_length_le h, List.take_length]
  revert h
  rw [firstK]
  split
  · split
    · intro h; cases h
    · intro _; exact key _
  · split
    · split
      · intro _; exact key _
      · intro h; cases h
    · split
      · intro h; cases h
      · intro _; exact key _
def offN (s : List UInt8) : Nat → List Token → Prop
  | at_, [] => at_ ≤ s.length ∧ blankN false (s.drop at_) = true
  | at_, t :: l => ((at_ : Int) ≤ t.at_ ∧ t.text.b ≠ [] ∧ t.at_ + t.text.b.length ≤ s.length ∧ (s.drop t.at_.toNat).take t.text.b.length = t.text.b ∧ blankN false ((s.drop at_).take (t.at_.toNat - at_)) = true) ∧ offN s (t.at_.toNat + t.text.b.length) l
theorem off_scan {s : List UInt8} : ∀ (f at0 : Nat) (l : List Token) (p : Int), at0 ≤ s.length → s.length - at0 < f → scanN f s (at0 + spl false (s.drop at0)) = (l, 0, p) → offN s at0 l
  | 0, _, _, _, _, h, _ => by omega
  | f + 1, at0, l, p, h0, hf, h => by
    rw [scanN] at h
    have hsp := spl_le (s.drop at0) false
    rw [List.length_drop] at hsp
    split at h
    · rename_i hlt
      split at h
      · rename_i he
        have hd : (s.drop (at0 + spl false (s.drop at0))).length = s.length - (at0 + spl false (s.drop at0)) := List.length_drop ..
        have q := firstK_len (s := s.drop (at0 + spl false (s.drop at0))) (by omega)
        have ht := firstK_text he
        generalize hx : firstK (s.drop (at0 + spl false (s.drop at0))) = x at *
        rw [consT] at h
        split at h
        · rename_i h3
          simp only [Prod.mk.injEq] at h
          obtain ⟨rfl, h1⟩ := h
          have hq2 := q.2.1 he
          refine ⟨⟨by dsimp only; omega, fun e => by have e' : x.2.1 = [] := e; rw [e'] at hq2; simp at hq2, by dsimp only; omega, ?_, ?_⟩, ?_⟩
          · show List.take x.2.1.length (List.drop (((at0 + spl false (s.drop at0) : Nat) : Int)).toNat s) = x.2.1
            rw [Int.toNat_natCast]; exact ht.symm
          · show blankN false (List.take ((((at0 + spl false (s.drop at0) : Nat) : Int)).toNat - at0) (s.drop at0)) = true
            rw [Int.toNat_natCast, Nat.add_sub_cancel_left]; exact blank_spl _ _
          · show offN s ((((at0 + spl false (s.drop at0) : Nat) : Int)).toNat + x.2.1.length) _
            rw [Int.toNat_natCast]
            refine off_scan f _ _ p (by omega) (by omega) ?_
            rw [← h1]
        · rename_i h3
          rw [h] at h3; exact absurd rfl h3
      · rename_i he
        simp only [Prod.mk.injEq] at h
        exact absurd h.2.1 he
    · simp only [Prod.mk.injEq] at h
      obtain ⟨rfl, _⟩ := h
      exact ⟨h0, blank_all h0 (by omega)⟩
theorem scan_errN {s : List UInt8} : ∀ (f at_ : Nat), (scanN f s at_).2.1 ≠ 0 → (scanN f s at_).1 = [] ∧ (at_ : Int) ≤ (scanN f s at_).2.2 ∧ (scanN f s at_).2.2 < s.length
  | 0, _, h => absurd rfl h
  | f + 1, at_, h => by
    rw [scanN] at h ⊢
    split
    · rename_i hlt
      rw [if_pos hlt] at h
      split
      · rename_i he
        rw [if_pos he] at h
        unfold consT at h ⊢
        split
        · rename_i h3; rw [if_pos h3] at h; exact absurd h3 h
        · rename_i h3
          have := scan_errN f _ h3
          exact ⟨this.1, by omega, this.2.2⟩
      · rename_i he
        exact ⟨rfl, Int.le_refl _, by dsimp only; omega⟩
    · rename_i hlt; rw [if_neg hlt] at h; exact absurd rfl h
theorem offsets_err {s : List UInt8} (hl : s.length ≤ 20000) (h : (scanS s).2.1 ≠ 0) : (scanS s).1 = [] ∧ 0 ≤ (scanS s).2.2 ∧ (scanS s).2.2 < s.length := by
  rw [scanS, if_neg (by omega)] at h ⊢
  have := scan_errN _ _ h
  exact ⟨this.1, by omega, this.2.2⟩
theorem offsets_ok {s : List UInt8} (hl : s.length ≤ 20000) (h : (scanS s).2.1 = 0) : offN s 0 (scanS s).1 := by
  rw [scanS, if_neg (by omega)] at h ⊢
  have := off_scan (s := s) (s.length + 1) 0 (scanN (s.length + 1) s (spl false s)).1 (scanN (s.length + 1) s (spl false s)).2.2 (Nat.zero_le _) (by omega)
  rw [List.drop_zero, Nat.zero_add] at this
  refine this ?_
  rw [← h]
theorem bl_end {b : Bool} {s : List UInt8} {i : Nat} (h : ¬ i < s.length) (e : blankN b (s.drop i) = blankN false s) : true = blankN false s := by
  rw [List.drop_of_length_le (by omega)] at e
  rw [← e]; rfl
theorem bl_10 {b : Bool} {s : List UInt8} {i : Nat} (h : i < s.length) (c : s.getD i 0 = 10) (e : blankN b (s.drop i) = blankN false s) : blankN false (s.drop (i + 1)) = blankN false s := by
  rw [dropc h, blankN, if_pos c] at e; exact e
theorem bl_35 {b : Bool} {s : List UInt8} {i : Nat} (h : i < s.length) (c : s.getD i 0 = 35) (e : blankN b (s.drop i) = blankN false s) : blankN true (s.drop (i + 1)) = blankN false s := by
  rw [dropc h, blankN, if_neg (by rw [c]; decide), if_pos c] at e; exact e
theorem bl_no {b : Bool} {s : List UInt8} {i : Nat} (h : i < s.length) (c1 : s.getD i 0 ≠ 10) (c2 : s.getD i 0 ≠ 35) (c : b = false ∧ s.getD i 0 ≠ 32 ∧ s.getD i 0 ≠ 9 ∧ s.getD i 0 ≠ 13) (e : blankN b (s.drop i) = blankN false s) : false = blankN false s := by
  rw [dropc h, blankN, if_neg c1, if_neg c2, if_pos c] at e; exact e
theorem bl_go {b : Bool} {s : List UInt8} {i : Nat} (h : i < s.length) (c1 : s.getD i 0 ≠ 10) (c2 : s.getD i 0 ≠ 35) (c : ¬ (b = false ∧ s.getD i 0 ≠ 32 ∧ s.getD i 0 ≠ 9 ∧ s.getD i 0 ≠ 13)) (e : blankN b (s.drop i) = blankN false s) : blankN b (s.drop (i + 1)) = blankN false s := by
  rw [dropc h, blankN, if_neg c1, if_neg c2, if_neg c] at e; exact e
theorem u8n {c : UInt8} (k : Nat) (h : ¬ (c.toNat : Int) = (k : Int)) (hk : k < 256 := by omega) : c ≠ UInt8.ofNat k := fun e => h (u8e k e hk)

/-! Texts one behind the other. -/
def sepB (c : UInt8) : Prop := c = 10 ∨ c = 32
theorem wordLen_sep {c : UInt8} (hc : sepB c) (x y : List UInt8) : wordLen (x ++ c :: y) = wordLen x := by
  have hw : isWordB c = false := by rcases hc with rfl | rfl <;> decide
  rw [wordLen, wordLen]
  induction x with
  | nil => rw [List.nil_append, List.takeWhile_cons, hw]; rfl
  | cons a x ih =>
    rw [List.cons_append, List.takeWhile_cons, List.takeWhile_cons]
    cases isWordB a with
    | true => simp only [↓reduceIte, List.length_cons, ih]
    | false => rfl
theorem symLen_sep {c : UInt8} (hc : sepB c) {x : List UInt8} (y : List UInt8) (hx : x ≠ []) : symLen (x ++ c :: y) = symLen x := by
  match x, hx with
  | [a], _ =>
    rw [symLen, symLen]
    rcases hc with rfl | rfl <;> simp
  | [a, b], _ =>
    rw [symLen, symLen]
    rcases hc with rfl | rfl <;> simp
  | a :: b :: d :: x, _ =>
    rw [symLen, symLen]
    simp
theorem firstK_sep {c : UInt8} (hc : sepB c) {x : List UInt8} (y : List UInt8) (hx : x ≠ []) : firstK (x ++ c :: y) = firstK x := by
  have h1 := wordLen_sep hc x y
  have h2 := symLen_sep hc y hx
  have h3 : (x ++ c :: y).getD 0 0 = x.getD 0 0 := by
    cases x with
    | nil => exact absurd rfl hx
    | cons a x => rfl
  have h4 : ∀ n, n ≤ x.length → (x ++ c :: y).take n = x.take n := fun n hn => List.take_append_of_le_length hn
  have h0 : 0 < x.length := List.length_pos_iff.2 hx
  rw [firstK, firstK, h1, h2, h3, h4 _ (wordLen_le x), h4 _ (symLen_le h0)]
theorem spl_sep : ∀ (x y : List UInt8) (b : Bool), spl b (x ++ 10 :: y) = if spl b x = x.length then x.length + 1 + spl false y else spl b x
  | [], y, b => by cases b <;> simp [spl]
  | c :: x, y, false => by
    rw [List.cons_append, spl, spl, spl_sep x y false, spl_sep x y true]
    simp only [List.length_cons]
    split
    · split
      · rw [if_pos (by omega)]; omega
      · rw [if_neg (by omega)]
    · split
      · split
        · rw [if_pos (by omega)]; omega
        · rw [if_neg (by omega)]
      · rw [if_neg (by omega)]
  | c :: x, y, true => by
    rw [List.cons_append, spl, spl, spl_sep x y false, spl_sep x y true]
    simp only [List.length_cons]
    split
    · split
      · rw [if_pos (by omega)]; omega
      · rw [if_neg (by omega)]
    · split
      · rw [if_pos (by omega)]; omega
      · rw [if_neg (by omega)]
/-- More steps than are needed change nothing. -/
theorem scan_fuel {s : List UInt8} : ∀ (f g at_ : Nat), s.length - at_ < f → s.length - at_ < g → scanN f s at_ = scanN g s at_
  | 0, _, _, h, _ => by omega
  | f + 1, 0, _, _, h => by omega
  | f + 1, g + 1, at_, h1, h2 => by
    rw [scanN, scanN]
    split
    · rename_i hlt
      split
      · rename_i he
        have hd : (s.drop at_).length = s.length - at_ := List.length_drop ..
        have q := (firstK_len (s := s.drop at_) (by omega)).2.1 he
        rw [scan_fuel f g _ (by omega) (by omega)]
      · rfl
    · rfl
def shT (n : Nat) (t : Token) : Token := ⟨t.kind, t.text, t.at_ + n⟩
def shR (n : Nat) (r : Sc) : Sc := if r.2.1 = 0 then (r.1.map (shT n), r.2) else (r.1, r.2.1, r.2.2 + n)
theorem scan_shift {s t : List UInt8} : ∀ (f a : Nat), scanN f (s ++ 10 :: t) (s.length + 1 + a) = shR (s.length + 1) (scanN f t a)
  | 0, _ => rfl
  | f + 1, a => by
    have hd : ∀ b, (s ++ 10 :: t).drop (s.length + 1 + b) = t.drop b := fun b => by
      rw [show s.length + 1 + b = (s ++ [10]).length + b by simp, show s ++ 10 :: t = (s ++ [10]) ++ t by simp, List.drop_append]
      simp
    rw [scanN, scanN]
    simp only [hd]
    by_cases h : a < t.length
    · rw [if_pos h, if_pos (by simp; omega)]
      by_cases he : (firstK (t.drop a)).2.2 = 0
      · rw [if_pos he, if_pos he]
        have e1 : s.length + 1 + a + (firstK (t.drop a)).2.1.length = s.length + 1 + (a + (firstK (t.drop a)).2.1.length) := by omega
        rw [e1, hd]
        have e2 : s.length + 1 + (a + (firstK (t.drop a)).2.1.length) + spl false (t.drop (a + (firstK (t.drop a)).2.1.length)) = s.length + 1 + (a + (firstK (t.drop a)).2.1.length + spl false (t.drop (a + (firstK (t.drop a)).2.1.length))) := by omega
        rw [e2, scan_shift f]
        generalize scanN f t _ = r
        unfold consT shR
        by_cases h0 : r.2.1 = 0
        · simp only [h0, ↓reduceIte, List.map_cons, shT]
          have : ((s.length + 1 + a : Nat) : Int) = (a : Int) + ((s.length + 1 : Nat) : Int) := by omega
          rw [this]
        · simp only [h0, ↓reduceIte]
      · rw [if_neg he, if_neg he]
        unfold shR
        rw [if_neg (by exact he)]
        have : ((s.length + 1 + a : Nat) : Int) = (a : Int) + ((s.length + 1 : Nat) : Int) := by omega
        rw [this]
    · rw [if_neg h, if_neg (by simp; omega)]; rfl
/-- Behind the first text the second. -/
def thenR (n : Nat) (a b : Sc) : Sc := if a.2.1 = 0 then preT a.1 (shR n b) else a
theorem then_cons (n : Nat) (t : Token) (a b : Sc) : thenR n (consT t a) b = consT t (thenR n a b) := by
  unfold thenR consT preT
  by_cases h : a.2.1 = 0
  · simp only [h, ↓reduceIte]
    by_cases h2 : (shR n b).2.1 = 0
    · simp only [h2, ↓reduceIte, List.cons_append]
    · simp only [h2, ↓reduceIte]
  · simp only [h, ↓reduceIte]
theorem scan_then {s t : List UInt8} : ∀ (f g a : Nat), a ≤ s.length → s.length - a < f → (s.length + t.length + 1) - a < g →
    scanN g (s ++ 10 :: t) (if a = s.length then s.length + 1 + spl false t else a) = thenR (s.length + 1) (scanN f s a) (scanN (t.length + 1) t (spl false t))
  | 0, _, _, _, h, _ => by omega
  | f + 1, 0, _, _, _, h => by omega
  | f + 1, g + 1, a, ha, hf, hg => by
    have hd : ∀ b, b ≤ s.length → (s ++ 10 :: t).drop b = s.drop b ++ 10 :: t := fun b hb => by rw [List.drop_append_of_le_length hb]
    by_cases h : a = s.length
    · subst h
      rw [if_pos rfl]
      have e : scanN (f + 1) s s.length = ([], 0, 0) := by rw [scanN, if_neg (by omega)]
      have e2 : thenR (s.length + 1) ([], 0, 0) (scanN (t.length + 1) t (spl false t)) = shR (s.length + 1) (scanN (t.length + 1) t (spl false t)) := by
        unfold thenR; rw [if_pos rfl, pre_nil]
      have hs := spl_le t false
      rw [scan_shift, e, e2, scan_fuel (g + 1) (t.length + 1) _ (by omega) (by omega)]
    · rw [if_neg h]
      have hlt : a < s.length := by omega
      have hne : s.drop a ≠ [] := by intro e; have := congrArg List.length e; rw [List.length_drop] at this; simp at this; omega
      have hdl : (s.drop a).length = s.length - a := List.length_drop ..
      have q := firstK_len (s := s.drop a) (by omega)
      have e1 : scanN (g + 1) (s ++ 10 :: t) a = if (firstK (s.drop a)).2.2 = 0 then
        consT ⟨(firstK (s.drop a)).1, ⟨(firstK (s.drop a)).2.1⟩, a⟩ (scanN g (s ++ 10 :: t) (a + (firstK (s.drop a)).2.1.length + spl false ((s ++ 10 :: t).drop (a + (firstK (s.drop a)).2.1.length))))
        else ([], (firstK (s.drop a)).2.2, (a : Int)) := by
        rw [scanN, if_pos (by simp; omega), hd a ha, firstK_sep (.inl rfl) t hne]
      have e2 : scanN (f + 1) s a = if (firstK (s.drop a)).2.2 = 0 then
        consT ⟨(firstK (s.drop a)).1, ⟨(firstK (s.drop a)).2.1⟩, a⟩ (scanN f s (a + (firstK (s.drop a)).2.1.length + spl false (s.drop (a + (firstK (s.drop a)).2.1.length))))
        else ([], (firstK (s.drop a)).2.2, (a : Int)) := by
        rw [scanN, if_pos hlt]
      rw [e1, e2]
      by_cases he : (firstK (s.drop a)).2.2 = 0
      · rw [if_pos he, if_pos he, then_cons]
        congr 1
        have hq := q.2.1 he
        generalize hn : a + (firstK (s.drop a)).2.1.length = n
        have hn' : n ≤ s.length := by omega
        have hsn := spl_le (s.drop n) false
        rw [List.length_drop] at hsn
        rw [hd n hn', spl_sep, List.length_drop]
        rw [← scan_then f g (n + spl false (s.drop n)) (by omega) (by omega) (by omega)]
        congr 1
        by_cases hx : spl false (s.drop n) = s.length - n
        · rw [if_pos hx, if_pos (by omega)]; omega
        · rw [if_neg hx, if_neg (by omega)]
      · rw [if_neg he, if_neg he]
        unfold thenR
        rw [if_neg (by exact he)]
theorem concat_scan {s t : List UInt8} (h : s.length + t.length + 1 ≤ 20000) : scanS (s ++ [10] ++ t) = thenR (s.length + 1) (scanS s) (scanS t) := by
  have e : s ++ [10] ++ t = s ++ 10 :: t := by simp
  rw [e, scanS, scanS, scanS, if_neg (by simp; omega), if_neg (by omega), if_neg (by omega)]
  have hs := spl_le s false
  have := scan_then (s := s) (t := t) (s.length + 1) ((s ++ 10 :: t).length + 1) (spl false s) hs (by omega) (by simp; omega)
  rw [← this, spl_sep]

/-! Tokens apart from one another. -/
theorem firstK_again {x : List UInt8} (h : (firstK x).2.2 = 0) (hx : x ≠ []) : firstK (firstK x).2.1 = firstK x ∧ (firstK x).2.1 ≠ [] ∧ ∀ y, spl false ((firstK x).2.1 ++ y) = 0 := by
  have h0 : 0 < x.length := List.length_pos_iff.2 hx
  have hw := wordLen_le x
  have hy := symLen_le h0
  obtain ⟨a, x', rfl⟩ : ∃ a x', x = a :: x' := by cases x with
    | nil => exact absurd rfl hx
    | cons a x' => exact ⟨a, x', rfl⟩
  have sp0 : ∀ (z : List UInt8), (a ≠ 32 ∧ a ≠ 9 ∧ a ≠ 10 ∧ a ≠ 13 ∧ a ≠ 35) → spl false (a :: z) = 0 := by
    intro z hz
    rw [spl, if_neg (by simp [hz]), if_neg (by simp [hz])]
  have wc : isWordB a = true → (a ≠ 32 ∧ a ≠ 9 ∧ a ≠ 10 ∧ a ≠ 13 ∧ a ≠ 35) := by
    intro ha
    refine ⟨?_, ?_, ?_, ?_, ?_⟩ <;> (rintro rfl; revert ha; decide)
  have sc : a ∈ singles → (a ≠ 32 ∧ a ≠ 9 ∧ a ≠ 10 ∧ a ≠ 13 ∧ a ≠ 35) := by
    intro ha
    refine ⟨?_, ?_, ?_, ?_, ?_⟩ <;> (rintro rfl; revert ha; decide)
  by_cases hw0 : wordLen (a :: x') = 0
  · have hna : isWordB a = false := by
      cases hb : isWordB a with
      | false => rfl
      | true => rw [wordLen, List.takeWhile_cons, hb] at hw0; simp at hw0
    have hwt : ∀ z, wordLen (a :: z) = 0 := fun z => by rw [wordLen, List.takeWhile_cons, hna]; rfl
    by_cases hs0 : symLen (a :: x') = 0
    · rw [firstK, if_pos hw0, if_pos hs0] at h; cases h
    · have hf : firstK (a :: x') = (3, (a :: x').take (symLen (a :: x')), 0) := by rw [firstK, if_pos hw0, if_neg hs0]
      rw [hf]
      obtain ⟨m, hm⟩ : ∃ m, symLen (a :: x') = m + 1 := ⟨symLen (a :: x') - 1, by omega⟩
      have key : symLen ((a :: x').take (symLen (a :: x'))) = symLen (a :: x') ∧ (a ≠ 32 ∧ a ≠ 9 ∧ a ≠ 10 ∧ a ≠ 13 ∧ a ≠ 35) := by
        by_cases h3 : (a :: x').take 3 = [62, 62, 62]
        · have e : symLen (a :: x') = 3 := by rw [symLen, if_pos h3]
          rw [e]
          refine ⟨by rw [h3]; rfl, ?_⟩
          have : a = 62 := by simpa using congrArg (fun l => l.getD 0 0) h3
          subst this; decide
        · by_cases h2 : (a :: x').take 2 = [60, 60] ∨ (a :: x').take 2 = [62, 62] ∨ (a :: x').take 2 = [60, 61] ∨ (a :: x').take 2 = [62, 61] ∨ (a :: x').take 2 = [61, 61] ∨ (a :: x').take 2 = [33, 61]
          · have e : symLen (a :: x') = 2 := by rw [symLen, if_neg h3, if_pos h2]
            rw [e]
            refine ⟨?_, ?_⟩
            · rw [symLen, List.take_take, List.take_take]
              rcases h2 with h2 | h2 | h2 | h2 | h2 | h2 <;> (rw [show min 3 2 = 2 from rfl, show min 2 2 = 2 from rfl, h2]; rfl)
            · rcases h2 with h2 | h2 | h2 | h2 | h2 | h2 <;> (have := congrArg (fun l => l.getD 0 0) h2; simp at this; subst this; decide)
          · by_cases h1 : (a :: x').getD 0 0 ∈ singles
            · have e : symLen (a :: x') = 1 := by rw [symLen, if_neg h3, if_neg h2, if_pos h1]
              rw [e]
              refine ⟨?_, sc h1⟩
              have h1' : a ∈ singles := h1
              rw [symLen, if_neg (by simp), if_neg (by simp), if_pos (by simpa using h1')]
            · rw [symLen, if_neg h3, if_neg h2, if_neg h1] at hs0; exact absurd rfl hs0
      refine ⟨?_, by rw [hm]; simp, fun y => ?_⟩
      · rw [firstK, key.1]
        rw [show wordLen ((a :: x').take (symLen (a :: x'))) = 0 by rw [hm, List.take_succ_cons]; exact hwt _]
        rw [if_pos rfl, if_neg hs0, List.take_take, Nat.min_self]
      · show spl false (List.take (symLen (a :: x')) (a :: x') ++ y) = 0
        rw [hm, List.take_succ_cons, List.cons_append]
        exact sp0 _ key.2
  · have ha : isWordB a = true := by
      cases hb : isWordB a with
      | true => rfl
      | false => rw [wordLen, List.takeWhile_cons, hb] at hw0; exact absurd rfl hw0
    obtain ⟨m, hm⟩ : ∃ m, wordLen (a :: x') = m + 1 := ⟨wordLen (a :: x') - 1, by omega⟩
    have hall : ((a :: x').take (wordLen (a :: x'))).all isWordB = true := by
      rw [wordLen]
      have : List.take (List.takeWhile isWordB (a :: x')).length (a :: x') = List.takeWhile isWordB (a :: x') := by
        conv => lhs; rw [← List.takeWhile_append_dropWhile (p := isWordB) (l := a :: x')]
        rw [List.takeWhile_append_dropWhile]
        exact (List.prefix_iff_eq_take.1 (List.takeWhile_prefix _)).symm
      rw [this]
      exact List.all_takeWhile
    have hwl : wordLen ((a :: x').take (wordLen (a :: x'))) = wordLen (a :: x') := by
      have h1 : ((a :: x').take (wordLen (a :: x'))).length = wordLen (a :: x') := by rw [List.length_take]; omega
      have := takeWhile_at (p := isWordB) (s := (a :: x').take (wordLen (a :: x'))) (n := wordLen (a :: x')) (by omega) (by rw [List.take_take, Nat.min_self]; exact hall) (fun hn => by omega)
      exact this.symm
    have hh : ((a :: x').take (wordLen (a :: x'))).getD 0 0 = a := by rw [hm]; rfl
    have htt : ((a :: x').take (wordLen (a :: x'))).take (wordLen (a :: x')) = (a :: x').take (wordLen (a :: x')) := by rw [List.take_take, Nat.min_self]
    have hff : firstK ((a :: x').take (wordLen (a :: x'))) = firstK (a :: x') := by
      rw [firstK, hwl, hh, htt, firstK, if_neg hw0, if_neg hw0]
      rfl
    have hv : (firstK (a :: x')).2.1 = (a :: x').take (wordLen (a :: x')) := by
      revert h
      rw [firstK, if_neg hw0]
      split
      · split
        · intro _; rfl
        · intro h; cases h
      · split
        · intro h; cases h
        · intro _; rfl
    rw [hv]
    refine ⟨hff, by rw [hm]; simp, fun y => ?_⟩
    rw [hm, List.take_succ_cons, List.cons_append]
    exact sp0 _ (wc ha)
/-- A token as the scanner makes them. -/
def tokOK (t : Token) : Prop := firstK t.text.b = (t.kind, t.text.b, 0) ∧ t.text.b ≠ [] ∧ ∀ y, spl false (t.text.b ++ y) = 0
theorem scan_toks {s : List UInt8} : ∀ (f at_ : Nat), (∀ t ∈ (scanN f s at_).1, tokOK t) ∧ (((scanN f s at_).1.map fun t => t.text.b.length).sum + at_ ≤ s.length ∨ (scanN f s at_).1 = [])
  | 0, _ => ⟨fun t h => by simp [scanN] at h, .inr rfl⟩
  | f + 1, at_ => by
    rw [scanN]
    split
    · rename_i hlt
      split
      · rename_i he
        have hd : (s.drop at_).length = s.length - at_ := List.length_drop ..
        have hne : s.drop at_ ≠ [] := by intro e; rw [e] at hd; simp at hd; omega
        obtain ⟨h1, h2, h3⟩ := firstK_again he hne
        have q := firstK_len (s := s.drop at_) (by omega)
        have ih := scan_toks (s := s) f (at_ + (firstK (s.drop at_)).2.1.length + spl false (s.drop (at_ + (firstK (s.drop at_)).2.1.length)))
        have hv : firstK (s.drop at_) = ((firstK (s.drop at_)).1, (firstK (s.drop at_)).2.1, 0) := by rw [← he]
        unfold consT
        split
        · refine ⟨fun t ht => ?_, .inl ?_⟩
          · rcases List.mem_cons.1 ht with rfl | ht
            · refine ⟨?_, h2, h3⟩
              show firstK (firstK (s.drop at_)).2.1 = _
              rw [h1]; exact hv
            · exact ih.1 t ht
          · simp only [List.map_cons, List.sum_cons]
            rcases ih.2 with h4 | h4
            · omega
            · rw [h4]; simp; omega
        · rename_i h5
          exact ⟨ih.1, by rcases ih.2 with h4 | h4 <;> first | exact .inr h4 | exact .inl (by omega)⟩
      · exact ⟨fun t h => by simp at h, .inr rfl⟩
    · exact ⟨fun t h => by simp at h, .inr rfl⟩
def respN : List Token → List UInt8
  | [] => []
  | t :: l => 32 :: (t.text.b ++ respN l)
theorem respN_app : ∀ (a b : List Token), respN (a ++ b) = respN a ++ respN b
  | [], b => rfl
  | t :: a, b => by simp [respN, respN_app a b]
theorem respN_len : ∀ (a : List Token), (∀ t ∈ a, tokOK t) → (respN a).length ≤ 2 * (a.map fun t => t.text.b.length).sum
  | [], _ => by simp [respN]
  | t :: a, h => by
    have := respN_len a fun t ht => h t (by simp [ht])
    have h2 := List.length_pos_iff.2 (h t (by simp)).2.1
    simp only [respN, List.length_cons, List.length_append, List.map_cons, List.sum_cons]; omega
theorem spl_line : ∀ {y : List UInt8}, (∀ c ∈ y, c ≠ 10) → spl true y = y.length
  | [], _ => rfl
  | c :: y, h => by
    rw [spl, if_neg (h c (by simp)), spl_line fun c hc => h c (by simp [hc]), List.length_cons]; omega
theorem spl_tail {y : List UInt8} (h : ∀ c ∈ y, c ≠ 10) : spl false ([32, 35, 32] ++ y) = ([32, 35, 32] ++ y).length := by
  have : spl true (32 :: y) = (32 :: y).length := spl_line fun c hc => by
    rcases List.mem_cons.1 hc with rfl | hc
    · decide
    · exact h c hc
  show spl false (32 :: 35 :: 32 :: y) = _
  rw [spl, if_pos (.inl rfl), spl, if_neg (by decide), if_pos rfl, this]; simp; omega
theorem resp_scan {u y : List UInt8} (hy : ∀ c ∈ y, c ≠ 10) : ∀ (a : List Token) (f n : Nat), (∀ t ∈ a, tokOK t) → u.drop n = respN a ++ ([32, 35, 32] ++ y) → n ≤ u.length → u.length - n < f →
    ∃ b, scanN f u (n + spl false (u.drop n)) = (b, 0, 0) ∧ b.length = a.length ∧ ∀ i, (b.getD i default).kind = (a.getD i default).kind ∧ (b.getD i default).text = (a.getD i default).text
  | _, 0, _, _, _, _, h => by omega
  | [], f + 1, n, _, hd, hn, hf => by
    have h1 : spl false (u.drop n) = (u.drop n).length := by rw [hd]; exact spl_tail hy
    rw [h1, List.length_drop]
    exact ⟨[], by rw [scanN, if_neg (by omega)], rfl, fun i => ⟨rfl, rfl⟩⟩
  | t :: a, f + 1, n, ht, hd, hn, hf => by
    obtain ⟨h1, h2, h3⟩ := ht t (by simp)
    have hsep : respN (t :: a) ++ ([32, 35, 32] ++ y) = 32 :: (t.text.b ++ (respN a ++ ([32, 35, 32] ++ y))) := by simp [respN]
    rw [hsep] at hd
    have hs1 : spl false (u.drop n) = 1 := by rw [hd, spl, if_pos (.inl rfl), h3]
    have hl := congrArg List.length hd
    rw [List.length_drop] at hl
    simp only [List.length_cons, List.length_append] at hl
    have hd1 : u.drop (n + 1) = t.text.b ++ (respN a ++ ([32, 35, 32] ++ y)) := by
      rw [← List.drop_drop, hd, List.drop_succ_cons, List.drop_zero]
    have hrest : ∃ z, respN a ++ ([32, 35, 32] ++ y) = 32 :: z := by
      cases a with
      | nil => exact ⟨_, rfl⟩
      | cons t' a => exact ⟨t'.text.b ++ (respN a ++ ([32, 35, 32] ++ y)), by simp [respN]⟩
    obtain ⟨z, hz⟩ := hrest
    have hk : firstK (u.drop (n + 1)) = (t.kind, t.text.b, 0) := by rw [hd1, hz, firstK_sep (.inr rfl) z h2, h1]
    have hd2 : u.drop (n + 1 + t.text.b.length) = respN a ++ ([32, 35, 32] ++ y) := by
      rw [← List.drop_drop, hd1, List.drop_left]
    obtain ⟨b, g1, g2, g3⟩ := resp_scan hy a f (n + 1 + t.text.b.length) (fun t ht' => ht t (by simp [ht'])) hd2 (by omega) (by omega)
    refine ⟨⟨t.kind, t.text, ((n + 1 : Nat) : Int)⟩ :: b, ?_, by simp [g2], fun i => ?_⟩
    · rw [hs1, scanN, if_pos (by omega), hk]
      dsimp only
      rw [if_pos rfl, g1]; rfl
    · cases i with
      | zero => exact ⟨rfl, rfl⟩
      | succ i => exact g3 i
theorem respaced {s y : List UInt8} (hl : s.length ≤ 600) (h : (scanS s).2.1 = 0) (hy : ∀ c ∈ y, c ≠ 10) (hyl : y.length ≤ 200) :
    ∃ b, scanS (respN (scanS s).1 ++ [32, 35, 32] ++ y) = (b, 0, 0) ∧ b.length = (scanS s).1.length ∧ ∀ i, (b.getD i default).kind = ((scanS s).1.getD i default).kind ∧ (b.getD i default).text = ((scanS s).1.getD i default).text := by
  have e : scanS s = scanN (s.length + 1) s (spl false s) := by rw [scanS, if_neg (by omega)]
  have ht := scan_toks (s := s) (s.length + 1) (spl false s)
  rw [← e] at ht
  generalize (scanS s).1 = a at *
  have hr := respN_len a ht.1
  have hr2 : (respN a).length ≤ 1200 := by
    rcases ht.2 with h1 | h1
    · omega
    · subst h1; simp [respN]
  rw [List.append_assoc, scanS, if_neg (by simp only [List.length_append, List.length_cons, List.length_nil]; omega)]
  have := resp_scan (u := respN a ++ ([32, 35, 32] ++ y)) hy a ((respN a ++ ([32, 35, 32] ++ y)).length + 1) 0 ht.1 rfl (Nat.zero_le _) (by omega)
  rw [Nat.zero_add, List.drop_zero] at this
  exact this
end Go.Proofs.Ytcakpkdeojhacaa.l3
