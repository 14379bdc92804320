/-
  Decimal texts of numbers and what they denote. No program; no condition beyond those that each statement names.
-/
import Derived.Test.YtcakpkdeojhacaaRxI
noncomputable section
namespace Go.R

def decD (d : Nat) : UInt8 := UInt8.ofNat (48 + d)
def dec (n : Nat) : List UInt8 := if n < 10 then [decD n] else dec (n / 10) ++ [decD (n % 10)]
def isDig (c : UInt8) : Bool := decide (48 ≤ c.toNat) && decide (c.toNat ≤ 57)
def valA (n : Nat) (c : UInt8) : Nat := 10 * n + (c.toNat - 48)
def val (l : List UInt8) : Nat := l.foldl valA 0
def okNum (t : List UInt8) : Bool := decide (1 ≤ t.length) && decide (t.length ≤ 19) && t.all isDig && (t.headD 0 != 48 || t.length == 1)
def posS (s : List UInt8) (most : Nat) : Option Nat := if okNum s = true ∧ val s ≤ most then some (val s) else none
def parseS (s : List UInt8) : Option Int :=
  if s.headD 0 = 45 then (match posS s.tail 9223372036854775808 with
    | some 0 => none
    | some n => some (-(n : Int))
    | none => none)
  else (match posS s 9223372036854775807 with
    | some n => some (n : Int)
    | none => none)
def textS (n : Int) : List UInt8 := if n < 0 then 45 :: dec n.natAbs else dec n.toNat

theorem decD_toNat {d : Nat} (h : d < 10) : (decD d).toNat = 48 + d := by
  unfold decD
  rw [UInt8.toNat_ofNat']; omega
theorem dec_small {n : Nat} (h : n < 10) : dec n = [decD n] := by rw [dec, if_pos h]
theorem dec_big {n : Nat} (h : ¬ n < 10) : dec n = dec (n / 10) ++ [decD (n % 10)] := by rw [dec, if_neg h]
theorem dec_len (k : Nat) : ∀ n, n < 10 ^ (k + 1) → (dec n).length ≤ k + 1 := by
  induction k with
  | zero => intro n h; rw [dec_small (by omega)]; simp
  | succ k ih =>
    intro n h
    by_cases hn : n < 10
    · rw [dec_small hn]; simp
    · rw [dec_big hn, List.length_append]
      have := ih (n / 10) (by rw [Nat.pow_succ] at h; omega)
      simp; omega
theorem dec_dig : ∀ n, (dec n).all isDig = true := by
  intro n
  induction n using Nat.strongRecOn with
  | _ n ih =>
    have hd : ∀ d, d < 10 → isDig (decD d) = true := fun d h => by
      unfold isDig; rw [decD_toNat h]
      have h1 : 48 ≤ 48 + d := by omega
      have h2 : 48 + d ≤ 57 := by omega
      simp [h1, h2]
    by_cases hn : n < 10
    · rw [dec_small hn]; simp [hd n hn]
    · rw [dec_big hn, List.all_append, ih (n / 10) (by omega)]
      simp [hd (n % 10) (by omega)]
theorem dec_ne (n : Nat) : dec n ≠ [] := by
  by_cases hn : n < 10
  · rw [dec_small hn]; simp
  · rw [dec_big hn]; simp
theorem dec_head : ∀ n, 0 < n → (dec n).headD 0 ≠ 48 := by
  intro n
  induction n using Nat.strongRecOn with
  | _ n ih =>
    intro h0
    by_cases hn : n < 10
    · rw [dec_small hn]
      intro h
      have := congrArg UInt8.toNat h
      simp only [List.headD_cons] at this
      rw [decD_toNat hn] at this
      have e : (48 : UInt8).toNat = 48 := rfl
      omega
    · rw [dec_big hn]
      have h1 := ih (n / 10) (by omega) (by omega)
      cases hq : dec (n / 10) with
      | nil => exact absurd hq (dec_ne _)
      | cons a t => rw [hq] at h1; exact h1
theorem dec_45 (n : Nat) : (dec n).headD 0 ≠ 45 := by
  have h := dec_dig n
  cases hq : dec n with
  | nil => exact absurd hq (dec_ne _)
  | cons a t =>
    rw [hq] at h
    intro he
    simp only [List.headD_cons] at he
    subst he
    simp [isDig] at h
theorem val_append (l : List UInt8) (c : UInt8) : val (l ++ [c]) = 10 * val l + (c.toNat - 48) := by
  unfold val; rw [List.foldl_append]; rfl
theorem val_dec : ∀ n, val (dec n) = n := by
  intro n
  induction n using Nat.strongRecOn with
  | _ n ih =>
    by_cases hn : n < 10
    · rw [dec_small hn]
      show valA 0 (decD n) = n
      unfold valA
      rw [decD_toNat hn]; omega
    · rw [dec_big hn, val_append, ih (n / 10) (by omega), decD_toNat (by omega)]; omega
theorem dec_len1 {n : Nat} (h : (dec n).headD 0 = 48) : (dec n).length = 1 := by
  rcases Nat.eq_zero_or_pos n with h0 | h0
  · subst h0; rw [dec_small (by omega)]; rfl
  · exact absurd h (dec_head n h0)
theorem okNum_dec {n : Nat} (h : n < 10 ^ 19) : okNum (dec n) = true := by
  unfold okNum
  have h1 : (dec n).length ≤ 19 := dec_len 18 n h
  have h2 : 1 ≤ (dec n).length := by
    rcases Nat.eq_zero_or_pos (dec n).length with h0 | h0
    · exact absurd (List.eq_nil_of_length_eq_zero h0) (dec_ne n)
    · exact h0
  rw [decide_eq_true h1, decide_eq_true h2, dec_dig]
  by_cases h3 : (dec n).headD 0 = 48
  · rw [dec_len1 h3]; simp
  · have : ((dec n).headD 0 != 48) = true := by simpa using h3
    rw [this]; rfl
theorem parse_text {n : Int} (h : in64 n) : parseS (textS n) = some n := by
  obtain ⟨h1, h2⟩ := h
  unfold textS
  split
  · rename_i hn
    have hb : n.natAbs < 10 ^ 19 := by omega
    unfold parseS
    simp only [List.headD_cons, if_true, List.tail_cons]
    unfold posS
    have e1 : okNum (dec n.natAbs) = true ∧ val (dec n.natAbs) ≤ 9223372036854775808 := ⟨okNum_dec hb, by rw [val_dec]; omega⟩
    rw [if_pos e1, val_dec]
    obtain ⟨m, hm⟩ : ∃ m, n.natAbs = m + 1 := ⟨n.natAbs - 1, by omega⟩
    rw [hm]
    simp only [Option.some.injEq]
    omega
  · rename_i hn
    have hb : n.toNat < 10 ^ 19 := by omega
    unfold parseS
    rw [if_neg (dec_45 _)]
    unfold posS
    have e1 : okNum (dec n.toNat) = true ∧ val (dec n.toNat) ≤ 9223372036854775807 := ⟨okNum_dec hb, by rw [val_dec]; omega⟩
    rw [if_pos e1, val_dec]
    simp only [Option.some.injEq]
    omega
theorem textS_inj {a b : Int} (ha : in64 a) (hb : in64 b) (h : textS a = textS b) : a = b := by
  have h1 := parse_text ha
  rw [h, parse_text hb] at h1
  exact (Option.some.inj h1).symm
/-! Reading digit by digit. -/
theorem val_take {s : List UInt8} {i : Nat} (h : i < s.length) : val (s.take (i + 1)) = 10 * val (s.take i) + ((s.getD i 0).toNat - 48) := by
  have : s.take (i + 1) = s.take i ++ [s.getD i 0] := by
    rw [List.take_add_one, List.getD_eq_getElem?_getD, List.getElem?_eq_getElem h]; rfl
  rw [this, val_append]
theorem all_take {p : UInt8 → Bool} {s : List UInt8} {i : Nat} (h : i < s.length) : (s.take (i + 1)).all p = ((s.take i).all p && p (s.getD i 0)) := by
  have : s.take (i + 1) = s.take i ++ [s.getD i 0] := by
    rw [List.take_add_one, List.getD_eq_getElem?_getD, List.getElem?_eq_getElem h]; rfl
  rw [this, List.all_append]; simp
theorem val_lt {s : List UInt8} : ∀ i, i ≤ s.length → (s.take i).all isDig = true → val (s.take i) < 10 ^ i := by
  intro i
  induction i with
  | zero => intro _ _; rw [List.take_zero]; decide
  | succ i ih =>
    intro h hd
    rw [all_take (by omega), Bool.and_eq_true] at hd
    have h1 := ih (by omega) hd.1
    have h2 := hd.2
    simp only [isDig, Bool.and_eq_true, decide_eq_true_eq] at h2
    rw [val_take (by omega), Nat.pow_succ]
    omega
end Go.R
end
