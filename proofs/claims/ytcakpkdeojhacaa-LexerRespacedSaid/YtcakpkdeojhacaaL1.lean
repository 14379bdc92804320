/-
  The lexer of the program, function by function, each by a symbolic run. No condition but that a text is not longer than a machine holds.
-/
import Derived.Test.YtcakpkdeojhacaaRxN
import Derived.Test.YtcakpkdeojhacaaRxArg
import Derived.Test.YtcakpkdeojhacaaRxV4
import Derived.Test.YtcakpkdeojhacaaChecked
noncomputable section
namespace Go.Proofs.Ytcakpkdeojhacaa.l1
open Go.R
set_option maxRecDepth 10000
set_option linter.unusedVariables false
theorem ql {H : Heap} {b o : Nat} {cs : List Value} {w : Value} (t : TypeId) (i : Nat) (hc : HC H.get b o cs) (ha : aggOf Try.prog t = some false) (hv : cs[i]? = some w) : LDv Try.prog H t (.pointer (some ⟨b, o + i, none⟩)) w := ld1 hc ha hv
theorem qn {H : Heap} {b o : Nat} {cs l : List Value} (t : TypeId) (i n : Nat) (hc : HC H.get b o cs) (ha : aggOf Try.prog t = some true) (hs : szOf Try.prog t = some n) (hn : Nat.ble (i + n) cs.length = true) (hl : takeL (dropL cs i) n = l) : LDv Try.prog H t (.pointer (some ⟨b, o + i, none⟩)) (.agg ⟨l⟩) := ldN hc ha hs hn hl
structure Token where
  kind : Int
  text : Str
  at_ : Int
  deriving Inhabited
instance : Rp Token where
  sz := 3
  rep F cs x := cs = [.int .i64 x.kind, .string ⟨⟨x.text.b⟩⟩, .int .i64 x.at_] ∧ in64 x.kind ∧ in64 x.at_
  len := by rintro F cs x ⟨rfl, _⟩; rfl
  one := by rintro F cs x ⟨rfl, _⟩; rfl
  mono := by intro F F' cs x _ h; exact h
theorem Token.vw {F : Fz} {get : Nat → Option AObj} {v : Value} {cf : Nat → List Value} {j : Nat} {l : List Token} (h : VW F get v l cf j) (hj : j < l.length) : HC get (sB v) (sO v + j * Rp.sz Token) [.int .i64 (l.getD j default).kind, .string ⟨⟨(l.getD j default).text.b⟩⟩, .int .i64 (l.getD j default).at_] := by
  obtain ⟨⟨h1, _⟩, h2⟩ := h.1 default hj
  rw [show cf j = _ from h1] at h2; exact h2
theorem Token.fx {F : Fz} {get : Nat → Option AObj} {v : Value} {cf : Nat → List Value} {j : Nat} {l : List Token} (h : VW F get v l cf j) : in64 (l.getD j default).kind ∧ in64 (l.getD j default).at_ := by
  rcases Nat.lt_or_ge j l.length with hj | hj
  · obtain ⟨⟨g1, h0, h1⟩, _⟩ := h.1 default hj
    exact ⟨h0, h1⟩
  · rw [getD_out hj]; exact ⟨by decide, by decide⟩

structure ErrT where
  why : Int
  at_ : Int
  deriving Inhabited
instance : Rp ErrT where
  sz := 2
  rep F cs x := cs = [.int .i64 x.why, .int .i64 x.at_] ∧ in64 x.why ∧ in64 x.at_
  len := by rintro F cs x ⟨rfl, _⟩; rfl
  one := by rintro F cs x ⟨rfl, _⟩; rfl
  mono := by intro F F' cs x _ h; exact h
theorem ErrT.vw {F : Fz} {get : Nat → Option AObj} {v : Value} {cf : Nat → List Value} {j : Nat} {l : List ErrT} (h : VW F get v l cf j) (hj : j < l.length) : HC get (sB v) (sO v + j * Rp.sz ErrT) [.int .i64 (l.getD j default).why, .int .i64 (l.getD j default).at_] := by
  obtain ⟨⟨h1, _⟩, h2⟩ := h.1 default hj
  rw [show cf j = _ from h1] at h2; exact h2
theorem ErrT.fx {F : Fz} {get : Nat → Option AObj} {v : Value} {cf : Nat → List Value} {j : Nat} {l : List ErrT} (h : VW F get v l cf j) : in64 (l.getD j default).why ∧ in64 (l.getD j default).at_ := by
  rcases Nat.lt_or_ge j l.length with hj | hj
  · obtain ⟨⟨g1, h0, h1⟩, _⟩ := h.1 default hj
    exact ⟨h0, h1⟩
  · rw [getD_out hj]; exact ⟨by decide, by decide⟩

def isLetB (c : UInt8) : Bool := decide (97 ≤ c.toNat) && decide (c.toNat ≤ 122) || decide (65 ≤ c.toNat) && decide (c.toNat ≤ 90) || c.toNat == 95
def isDigB (c : UInt8) : Bool := decide (48 ≤ c.toNat) && decide (c.toNat ≤ 57)
def isWordB (c : UInt8) : Bool := isLetB c || isDigB c
def wordLen (s : List UInt8) : Nat := (s.takeWhile isWordB).length
theorem takeWhile_at {p : UInt8 → Bool} : ∀ {s : List UInt8} {n : Nat}, n ≤ s.length → (s.take n).all p = true → (n < s.length → p (s.getD n 0) = false) → n = (s.takeWhile p).length
  | [], n, h, _, _ => by simp at h; simp [h]
  | c :: s, 0, _, _, h3 => by
    have := h3 (by simp)
    simp only [List.getD_cons_zero] at this
    rw [List.takeWhile_cons, this]; rfl
  | c :: s, n + 1, h, h2, h3 => by
    simp only [List.take_succ_cons, List.all_cons, Bool.and_eq_true] at h2
    rw [List.takeWhile_cons, h2.1]
    have := takeWhile_at (p := p) (s := s) (n := n) (by simpa using h) h2.2 (fun hn => by have := h3 (by simpa using hn); simpa using this)
    simp [← this]
theorem wordLen_le (s : List UInt8) : wordLen s ≤ s.length := (List.takeWhile_prefix _).length_le
def blankB (c : UInt8) : Bool := c == 32 || c == 9 || c == 10 || c == 13
def isDigAll (s : List UInt8) : Bool := s.all isDigB
def most19 : List UInt8 := [57, 50, 50, 51, 51, 55, 50, 48, 51, 54, 56, 53, 52, 55, 55, 53, 56, 48, 56]
def validNum (s : List UInt8) : Bool := s.all isDigB && ((s.getD 0 0 != 48 || s.length == 1) && (decide (s.length < 19) || s.length == 19 && (Op.bytesLess s most19 || s == most19)))
theorem vn1 {s : List UInt8} {i : Nat} (h : i < s.length) (c : isDigB (s.getD i 0) = false) : false = validNum s := by
  have : s.all isDigB = false := by
    rw [List.all_eq_false]
    refine ⟨s.getD i 0, ?_, by simpa using c⟩
    rw [List.getD_eq_getElem?_getD, List.getElem?_eq_getElem h]
    exact List.getElem_mem h
  simp [validNum, this]
theorem all_of_take {p : UInt8 → Bool} {s : List UInt8} {i : Nat} (h : s.length ≤ i) (h2 : (s.take i).all p = true) : s.all p = true := by rwa [List.take_of_length_le h] at h2
theorem nat_beq48 (c : UInt8) : (((c.toNat : Int) != 48)) = (c != 48) := by
  by_cases h : c = 48
  · subst h; rfl
  · have : c.toNat ≠ 48 := fun e => h (UInt8.toNat_inj.mp (by rw [e]; rfl))
    have h1 : ((c.toNat : Int) != 48) = true := by simp; omega
    rw [h1, eq_comm]; simpa using h
theorem int_beq (a : Nat) (b : Nat) : ((a : Int) == (b : Int)) = (a == b) := by
  rw [Bool.eq_iff_iff]; simp; omega
theorem vn2 {s : List UInt8} (h : s.all isDigB = true) : (((((s.getD 0 0).toNat : Int) != 48) || ((s.length : Int) == 1)) && ((decide ((s.length : Int) < 19)) || (((s.length : Int) == 19) && (Op.bytesLess s most19 || s == most19)))) = validNum s := by
  rw [validNum, h, nat_beq48, show ((s.length : Int) == 1) = (s.length == 1) from int_beq _ 1, show ((s.length : Int) == 19) = (s.length == 19) from int_beq _ 19, Bool.true_and]
  rw [show decide ((s.length : Int) < 19) = decide (s.length < 19) from decide_eq_decide.mpr (by omega)]
def singles : List UInt8 := [43, 45, 42, 47, 37, 38, 124, 94, 126, 33, 60, 62, 61, 63, 58, 59, 44, 40, 41, 123, 125, 91, 93]
def symLen (s : List UInt8) : Nat :=
  if s.take 3 = [62, 62, 62] then 3
  else if s.take 2 = [60, 60] ∨ s.take 2 = [62, 62] ∨ s.take 2 = [60, 61] ∨ s.take 2 = [62, 61] ∨ s.take 2 = [61, 61] ∨ s.take 2 = [33, 61] then 2
  else if s.getD 0 0 ∈ singles then 1 else 0
theorem tk3 {s : List UInt8} {a b c : UInt8} (h : (3 : Int) ≤ s.length → s.take 3 ≠ [a, b, c]) : ¬ s.take 3 = [a, b, c] := by
  intro e
  refine h ?_ e
  have := congrArg List.length e
  rw [List.length_take] at this
  simp only [List.length_cons, List.length_nil] at this
  omega
theorem tk2 {s : List UInt8} {a b : UInt8} (h : (2 : Int) ≤ s.length → s.take 2 ≠ [a, b]) : ¬ s.take 2 = [a, b] := by
  intro e
  refine h ?_ e
  have := congrArg List.length e
  rw [List.length_take] at this
  simp only [List.length_cons, List.length_nil] at this
  omega
theorem sing_mem {c : UInt8} {i : Nat} (h : i < 23) (e : ((c.toNat : Int)) = ((singles.getD i 0).toNat : Int)) : c ∈ singles := by
  have : c = singles.getD i 0 := UInt8.toNat_inj.mp (by exact_mod_cast e)
  rw [this, List.getD_eq_getElem?_getD, List.getElem?_eq_getElem (show i < singles.length from h)]
  exact List.getElem_mem _
theorem sing_ne {c : UInt8} {i j : Nat} (e : ((c.toNat : Int)) ≠ ((singles.getD i 0).toNat : Int)) (h2 : ∀ j, j < i → c ≠ singles.getD j 0) (h : j < i + 1) : c ≠ singles.getD j 0 := by
  rcases Nat.lt_succ_iff_lt_or_eq.mp h with h | h
  · exact h2 j h
  · subst h; intro he; exact e (by rw [he])
theorem sing_no {c : UInt8} (h2 : ∀ j, j < 23 → c ≠ singles.getD j 0) : c ∉ singles := by
  intro h
  obtain ⟨j, hj, e⟩ := List.getElem_of_mem h
  refine h2 j hj ?_
  rw [List.getD_eq_getElem?_getD, List.getElem?_eq_getElem hj]; exact e.symm

theorem isLetter_c (ex : FuncId) (c : UInt8) (H : Heap) : C Try.prog 0 (KX ex) 67 [(.int .u8 (c.toNat : Int))] H fun v H' => ∃ (r : Bool), H' = H ∧ v = .bool r ∧ r = isLetB c := by
  refine c_enter Try.func67 rfl rfl ?_
  refine wk_foc 1 rfl ?_
  refine wr 2 [] 2 2 [] [(2, (.bool false))] trivial (by kernel_rfl) rfl fun gg1 => ?_
  refine wr 1 [] 2 20 [] [(2, (.bool ((((decide ((97 : Int) ≤ (c.toNat : Int))) && (decide ((c.toNat : Int) ≤ 122))) || ((decide ((65 : Int) ≤ (c.toNat : Int))) && (decide ((c.toNat : Int) ≤ 90)))) || ((c.toNat : Int) == 95))))] trivial (by kernel_rfl) rfl fun gg2 => ?_
  refine wk_ret ⟨.inr rfl, _, rfl, ((((decide ((97 : Int) ≤ (c.toNat : Int))) && (decide ((c.toNat : Int) ≤ 122))) || ((decide ((65 : Int) ≤ (c.toNat : Int))) && (decide ((c.toNat : Int) ≤ 90)))) || ((c.toNat : Int) == 95)), rfl, rfl, (by simp [isLetB]; grind)⟩

theorem isLetter_c_q (ex : FuncId) (c : UInt8) (H : Heap) : C Try.prog 0 (KX ex) 67 [(.int .u8 (c.toNat : Int))] H fun v H' => v = (.bool (isLetB c)) ∧ H' = H :=
  cq (isLetter_c ex c H) (by rintro _ _ ⟨_, rfl, rfl, rfl⟩; exact ⟨rfl, rfl⟩)

theorem isDigit_c (ex : FuncId) (c : UInt8) (H : Heap) : C Try.prog 0 (KX ex) 56 [(.int .u8 (c.toNat : Int))] H fun v H' => ∃ (r : Bool), H' = H ∧ v = .bool r ∧ r = isDigB c := by
  refine c_enter Try.func56 rfl rfl ?_
  refine wk_foc 1 rfl ?_
  refine wr 2 [] 2 2 [] [(2, (.bool false))] trivial (by kernel_rfl) rfl fun gg1 => ?_
  refine wr 1 [] 2 8 [] [(2, (.bool ((decide ((48 : Int) ≤ (c.toNat : Int))) && (decide ((c.toNat : Int) ≤ 57)))))] trivial (by kernel_rfl) rfl fun gg2 => ?_
  refine wk_ret ⟨.inr rfl, _, rfl, ((decide ((48 : Int) ≤ (c.toNat : Int))) && (decide ((c.toNat : Int) ≤ 57))), rfl, rfl, (by simp [isDigB]; grind)⟩

theorem isDigit_c_q (ex : FuncId) (c : UInt8) (H : Heap) : C Try.prog 0 (KX ex) 56 [(.int .u8 (c.toNat : Int))] H fun v H' => v = (.bool (isDigB c)) ∧ H' = H :=
  cq (isDigit_c ex c H) (by rintro _ _ ⟨_, rfl, rfl, rfl⟩; exact ⟨rfl, rfl⟩)

theorem wordLen_c (ex : FuncId) (s : List UInt8) (H : Heap) (hl : s.length < 4611686018427387904) : C Try.prog 0 (KX ex) 54 [(.string ⟨⟨s⟩⟩)] H fun v H' => ∃ (r : Nat), H' = H ∧ v = .int .i64 (r : Int) ∧ r = wordLen s := by
  refine c_enter Try.func54 rfl rfl ?_
  refine wk_foc 1 rfl ?_
  refine wr 2 [] 2 2 [] [(2, (.int .i64 0))] trivial (by kernel_rfl) rfl fun gg1 => ?_
  refine wr 3 [] 1 0 [3] [(3, (.int .i64 0))] trivial (by kernel_rfl) rfl fun gg2 => ?_
  refine wk_loop_inv (fun (mm : Nat) f H' => ∃ (n : Nat), H' = H ∧ agrees f [(0, (.string ⟨⟨s⟩⟩)), (2, (.int .i64 0)), (3, (.int .i64 (n : Int)))] ∧ mm = s.length - n ∧ (n ≤ s.length) ∧ ((s.take n).all isWordB = true)) _ ⟨0, rfl, (agC rfl (agC rfl (agC rfl agN))), rfl, (by first | assumption | omega | (simp at *; omega)), (by rfl)⟩ ?_
  rintro mm3 f3 H ⟨n, rfl, hf3, rfl, h1, h2⟩ ih3
  refine wk_canon _ hf3 (fun gg3 => ?_)
  clear hf3
  refine wk_foc 2 rfl ?_
  have u8_4 := u8_lt (s.getD n 0)
  have u8_5 := u8_lt (s.getD n 0)
  refine wr 1 [(8, .o (.bool (isLetB (s.getD n 0)))), (13, .o (.bool (isDigB (s.getD n 0))))] 4 19 [] [(19, (.bool ((decide ((n : Int) < (s.length : Int))) && (isLetB (s.getD n 0) || isDigB (s.getD n 0)))))] (vA (fun (g1 : (decide ((n : Int) < (s.length : Int))) = true) => (vA (show (0 : Int) ≤ (n : Int) from by (try simp only [BS] at g1); omega) (show (n : Int) < (((s : List UInt8).length : Nat) : Int) from by (try simp only [BS] at g1); omega))) (vA (fun (g1 : (decide ((n : Int) < (s.length : Int))) = true) => (isLetter_c_q ex (s.getD n 0) H)) (vA (fun (g1 : (isLetB (s.getD n 0)) = false) (g2 : (decide ((n : Int) < (s.length : Int))) = true) => (vA (show (0 : Int) ≤ (n : Int) from by (try simp only [BS] at g1 g2); omega) (show (n : Int) < (((s : List UInt8).length : Nat) : Int) from by (try simp only [BS] at g1 g2); omega))) (vA (fun (g1 : (isLetB (s.getD n 0)) = false) (g2 : (decide ((n : Int) < (s.length : Int))) = true) => (isDigit_c_q ex (s.getD n 0) H)) trivial)))) (by kernel_rfl) rfl fun gg6 => ?_
  refine wk_if 2 5 (v := ((decide ((n : Int) < (s.length : Int))) && (isLetB (s.getD n 0) || isDigB (s.getD n 0)))) rfl rfl rfl rfl (fun c7b => ?_) (fun c7b => ?_)
  · have c7 := c7b
    try simp only [BS] at c7
    have c := c7
    refine wr 2 [] 20 21 [3] [(3, (.int .i64 ((n : Int) + 1)))] (vA (vi (n := (n : Int) + 1) (by omega)) trivial) (by kernel_rfl) rfl fun gg8 => ?_
    refine ih3 _ _ _ ?_ ⟨n + 1, rfl, (agC rfl (agC rfl (agC rfl agN))), rfl, (by first | assumption | omega | (simp at *; omega)), (by rw [all_take (by omega), h2, isWordB]; simpa using c.2)⟩
    omega
  · have c7 := c7b
    try simp only [BS] at c7
    have c := c7
    refine wr 1 [] 1 0 [2, 22] [(2, (.int .i64 (n : Int)))] trivial (by kernel_rfl) rfl fun gg9 => ?_
    refine wk_ret ⟨.inr rfl, _, rfl, n, rfl, rfl, (by exact takeWhile_at h1 h2 (fun hn => by have := c (by omega); rw [isWordB, this.1, this.2]; rfl))⟩

theorem wordLen_c_q (ex : FuncId) (s : List UInt8) (H : Heap) (hl : s.length < 4611686018427387904) : C Try.prog 0 (KX ex) 54 [(.string ⟨⟨s⟩⟩)] H fun v H' => v = (.int .i64 ((wordLen s : Nat) : Int)) ∧ H' = H :=
  cq (wordLen_c ex s H hl) (by rintro _ _ ⟨_, rfl, rfl, rfl⟩; exact ⟨rfl, rfl⟩)

theorem validNum_c (ex : FuncId) (s : List UInt8) (H : Heap) (hl : s.length < 4611686018427387904) (h0 : 0 < s.length) : C Try.prog 0 (KX ex) 57 [(.string ⟨⟨s⟩⟩)] H fun v H' => ∃ (r : Bool), H' = H ∧ v = .bool r ∧ r = validNum s := by
  refine c_enter Try.func57 rfl rfl ?_
  refine wk_foc 1 rfl ?_
  refine wr 3 [] 2 2 [] [(2, (.bool false))] trivial (by kernel_rfl) rfl fun gg1 => ?_
  refine wr 2 [] 1 0 [3] [(3, (.int .i64 0))] trivial (by kernel_rfl) rfl fun gg2 => ?_
  refine wk_loop_inv (fun (mm : Nat) f H' => ∃ (i : Nat), H' = H ∧ agrees f [(0, (.string ⟨⟨s⟩⟩)), (3, (.int .i64 (i : Int)))] ∧ mm = s.length - i ∧ (i ≤ s.length) ∧ ((s.take i).all isDigB = true)) _ ⟨0, rfl, (agC rfl (agC rfl agN)), rfl, (by first | assumption | omega | (simp at *; omega)), (by rfl)⟩ ?_
  rintro mm3 f3 H ⟨i, rfl, hf3, rfl, h1, h2⟩ ih3
  refine wk_canon _ hf3 (fun gg3 => ?_)
  clear hf3
  refine wk_foc 2 rfl ?_
  refine wr 1 [] 4 7 [] [(7, (.bool (decide ((i : Int) < (s.length : Int)))))] trivial (by kernel_rfl) rfl fun gg4 => ?_
  refine wk_if 4 5 (v := (decide ((i : Int) < (s.length : Int)))) rfl rfl rfl rfl (fun c5b => ?_) (fun c5b => ?_)
  · have c5 := c5b
    try simp only [BS] at c5
    have ci := c5
    have u8_6 := u8_lt (s.getD i 0)
    refine wr 1 [(3, .o (.bool (isDigB (s.getD i 0))))] 10 14 [] [(14, (.bool (!(isDigB (s.getD i 0)))))] (vA (vA (show (0 : Int) ≤ (i : Int) from by first | omega | (show 0 < _; omega)) (show (i : Int) < (((s : List UInt8).length : Nat) : Int) from by first | omega | (show 0 < _; omega))) (vA (isDigit_c_q ex (s.getD i 0) H) trivial)) (by kernel_rfl) rfl fun gg7 => ?_
    refine wk_if 1 2 (v := (!(isDigB (s.getD i 0)))) rfl rfl rfl rfl (fun c8b => ?_) (fun c8b => ?_)
    · have c8 := c8b
      try simp only [BS] at c8
      have c := c8
      refine wr 1 [] 2 2 [] [(2, (.bool false))] trivial (by kernel_rfl) rfl fun gg9 => ?_
      refine wk_ret ⟨.inr rfl, _, rfl, false, rfl, rfl, (by exact vn1 (by omega) c)⟩
    · have c8 := c8b
      try simp only [BS] at c8
      have c := c8
      refine wr 1 [] 8 9 [3] [(3, (.int .i64 ((i : Int) + 1)))] (vA (vi (n := (i : Int) + 1) (by first | omega | (show 0 < _; omega))) trivial) (by kernel_rfl) rfl fun gg10 => ?_
      refine ih3 _ _ _ ?_ ⟨i + 1, rfl, (agC rfl (agC rfl agN)), rfl, (by first | assumption | omega | (simp at *; omega)), (by rw [all_take (by omega), h2, c]; rfl)⟩
      omega
  · have c5 := c5b
    try simp only [BS] at c5
    have ci := c5
    have u8_11 := u8_lt (s.getD 0 0)
    refine wr 1 [] 1 0 [2, 15, 16, 17, 18, 19, 20, 21, 22, 23, 24, 25, 26, 27, 28, 29, 30, 31, 32, 33, 34, 35, 36] [(2, (.bool (((((s.getD 0 0).toNat : Int) != 48) || ((s.length : Int) == 1)) && ((decide ((s.length : Int) < 19)) || (((s.length : Int) == 19) && (Op.bytesLess s [57, 50, 50, 51, 51, 55, 50, 48, 51, 54, 56, 53, 52, 55, 55, 53, 56, 48, 56] || s == ([57, 50, 50, 51, 51, 55, 50, 48, 51, 54, 56, 53, 52, 55, 55, 53, 56, 48, 56] : List UInt8)))))))] (vA (vA (show (0 : Int) ≤ 0 from by first | omega | (show 0 < _; omega)) (show (0 : Int) < (((s : List UInt8).length : Nat) : Int) from by first | omega | (show 0 < _; omega))) trivial) (by kernel_rfl) rfl fun gg12 => ?_
    refine wk_ret ⟨.inr rfl, _, rfl, (((((s.getD 0 0).toNat : Int) != 48) || ((s.length : Int) == 1)) && ((decide ((s.length : Int) < 19)) || (((s.length : Int) == 19) && (Op.bytesLess s [57, 50, 50, 51, 51, 55, 50, 48, 51, 54, 56, 53, 52, 55, 55, 53, 56, 48, 56] || s == ([57, 50, 50, 51, 51, 55, 50, 48, 51, 54, 56, 53, 52, 55, 55, 53, 56, 48, 56] : List UInt8))))), rfl, rfl, (by exact vn2 (all_of_take (by omega) h2))⟩

theorem validNum_c_q (ex : FuncId) (s : List UInt8) (H : Heap) (hl : s.length < 4611686018427387904) (h0 : 0 < s.length) : C Try.prog 0 (KX ex) 57 [(.string ⟨⟨s⟩⟩)] H fun v H' => v = (.bool (validNum s)) ∧ H' = H :=
  cq (validNum_c ex s H hl h0) (by rintro _ _ ⟨_, rfl, rfl, rfl⟩; exact ⟨rfl, rfl⟩)

theorem symLen_c (ex : FuncId) (s : List UInt8) (H : Heap) (h0 : 0 < s.length) : C Try.prog 0 (KX ex) 55 [(.string ⟨⟨s⟩⟩)] H fun v H' => ∃ (r : Nat), H' = H ∧ v = .int .i64 (r : Int) ∧ r = symLen s := by
  refine c_enter Try.func55 rfl rfl ?_
  refine wk_foc 1 rfl ?_
  refine wr 3 [] 2 2 [] [(2, (.int .i64 0))] trivial (by kernel_rfl) rfl fun gg1 => ?_
  refine wr 2 [] 6 7 [] [(6, (.agg ⟨[(.string ⟨⟨[62, 62, 62]⟩⟩), (.string ⟨⟨[60, 60]⟩⟩), (.string ⟨⟨[62, 62]⟩⟩), (.string ⟨⟨[60, 61]⟩⟩), (.string ⟨⟨[62, 61]⟩⟩), (.string ⟨⟨[61, 61]⟩⟩), (.string ⟨⟨[33, 61]⟩⟩)]⟩)), (7, (.int .i64 0))] trivial (by kernel_rfl) rfl fun gg2 => ?_
  refine wk_loop ?_
  refine wk_foc 1 rfl ?_
  refine wr 2 [] 8 8 [] [(8, (.bool true))] trivial (by kernel_rfl) rfl fun gg3 => ?_
  refine wk_ift 4 (v := true) rfl rfl rfl rfl ?_
  refine wr 2 [] 9 9 [4] [(4, (.string ⟨⟨[62, 62, 62]⟩⟩))] trivial (by kernel_rfl) rfl fun gg4 => ?_
  refine wr 1 [] 10 22 [] [(22, (.bool ((decide ((3 : Int) ≤ (s.length : Int))) && ((s.take 3) == ([62, 62, 62] : List UInt8)))))] (vA (fun (g1 : (decide ((3 : Int) ≤ (s.length : Int))) = true) => (vA (show (0 : Int) ≤ 3 from by (try simp only [BS] at g1); (first | omega | (show _ < 23; omega))) (show (3 : Int) ≤ (((s : List UInt8).length : Nat) : Int) from by (try simp only [BS] at g1); (first | omega | (show _ < 23; omega))))) trivial) (by kernel_rfl) rfl fun gg5 => ?_
  refine wk_if 1 2 (v := ((decide ((3 : Int) ≤ (s.length : Int))) && ((s.take 3) == ([62, 62, 62] : List UInt8)))) rfl rfl rfl rfl (fun c6b => ?_) (fun c6b => ?_)
  · have c6 := c6b
    try simp only [BS] at c6
    have nn := (c6).2
    refine wr 1 [] 1 0 [2, 23, 24] [(2, (.int .i64 3))] trivial (by kernel_rfl) rfl fun gg7 => ?_
    refine wk_ret ⟨.inr rfl, _, rfl, 3, rfl, rfl, (by simp only [symLen, *, ↓reduceIte, true_or, or_true])⟩
  · have c6 := c6b
    try simp only [BS] at c6
    first | have nn := tk3 c6 | have nn := tk2 c6
    refine wr 1 [] 1 0 [7, 25] [(7, (.int .i64 1))] (vA (vi (n := (1 : Int)) (by first | omega | (show _ < 23; omega))) trivial) (by kernel_rfl) rfl fun gg8 => ?_
    refine wk_loop ?_
    refine wk_foc 1 rfl ?_
    refine wr 2 [] 8 8 [] [(8, (.bool true))] trivial (by kernel_rfl) rfl fun gg9 => ?_
    refine wk_ift 4 (v := true) rfl rfl rfl rfl ?_
    refine wr 2 [] 9 9 [4] [(4, (.string ⟨⟨[60, 60]⟩⟩))] trivial (by kernel_rfl) rfl fun gg10 => ?_
    refine wr 1 [] 10 22 [] [(22, (.bool ((decide ((2 : Int) ≤ (s.length : Int))) && ((s.take 2) == ([60, 60] : List UInt8)))))] (vA (fun (g1 : (decide ((2 : Int) ≤ (s.length : Int))) = true) => (vA (show (0 : Int) ≤ 2 from by (try simp only [BS] at g1); (first | omega | (show _ < 23; omega))) (show (2 : Int) ≤ (((s : List UInt8).length : Nat) : Int) from by (try simp only [BS] at g1); (first | omega | (show _ < 23; omega))))) trivial) (by kernel_rfl) rfl fun gg11 => ?_
    refine wk_if 1 2 (v := ((decide ((2 : Int) ≤ (s.length : Int))) && ((s.take 2) == ([60, 60] : List UInt8)))) rfl rfl rfl rfl (fun c12b => ?_) (fun c12b => ?_)
    · have c12 := c12b
      try simp only [BS] at c12
      have nn := (c12).2
      refine wr 1 [] 1 0 [2, 23, 24] [(2, (.int .i64 2))] trivial (by kernel_rfl) rfl fun gg13 => ?_
      refine wk_ret ⟨.inr rfl, _, rfl, 2, rfl, rfl, (by simp only [symLen, *, ↓reduceIte, true_or, or_true])⟩
    · have c12 := c12b
      try simp only [BS] at c12
      first | have nn := tk3 c12 | have nn := tk2 c12
      refine wr 1 [] 1 0 [7, 25] [(7, (.int .i64 2))] (vA (vi (n := (2 : Int)) (by first | omega | (show _ < 23; omega))) trivial) (by kernel_rfl) rfl fun gg14 => ?_
      refine wk_loop ?_
      refine wk_foc 1 rfl ?_
      refine wr 2 [] 8 8 [] [(8, (.bool true))] trivial (by kernel_rfl) rfl fun gg15 => ?_
      refine wk_ift 4 (v := true) rfl rfl rfl rfl ?_
      refine wr 2 [] 9 9 [4] [(4, (.string ⟨⟨[62, 62]⟩⟩))] trivial (by kernel_rfl) rfl fun gg16 => ?_
      refine wr 1 [] 10 22 [] [(22, (.bool ((decide ((2 : Int) ≤ (s.length : Int))) && ((s.take 2) == ([62, 62] : List UInt8)))))] (vA (fun (g1 : (decide ((2 : Int) ≤ (s.length : Int))) = true) => (vA (show (0 : Int) ≤ 2 from by (try simp only [BS] at g1); (first | omega | (show _ < 23; omega))) (show (2 : Int) ≤ (((s : List UInt8).length : Nat) : Int) from by (try simp only [BS] at g1); (first | omega | (show _ < 23; omega))))) trivial) (by kernel_rfl) rfl fun gg17 => ?_
      refine wk_if 1 2 (v := ((decide ((2 : Int) ≤ (s.length : Int))) && ((s.take 2) == ([62, 62] : List UInt8)))) rfl rfl rfl rfl (fun c18b => ?_) (fun c18b => ?_)
      · have c18 := c18b
        try simp only [BS] at c18
        have nn := (c18).2
        refine wr 1 [] 1 0 [2, 23, 24] [(2, (.int .i64 2))] trivial (by kernel_rfl) rfl fun gg19 => ?_
        refine wk_ret ⟨.inr rfl, _, rfl, 2, rfl, rfl, (by simp only [symLen, *, ↓reduceIte, true_or, or_true])⟩
      · have c18 := c18b
        try simp only [BS] at c18
        first | have nn := tk3 c18 | have nn := tk2 c18
        refine wr 1 [] 1 0 [7, 25] [(7, (.int .i64 3))] (vA (vi (n := (3 : Int)) (by first | omega | (show _ < 23; omega))) trivial) (by kernel_rfl) rfl fun gg20 => ?_
        refine wk_loop ?_
        refine wk_foc 1 rfl ?_
        refine wr 2 [] 8 8 [] [(8, (.bool true))] trivial (by kernel_rfl) rfl fun gg21 => ?_
        refine wk_ift 4 (v := true) rfl rfl rfl rfl ?_
        refine wr 2 [] 9 9 [4] [(4, (.string ⟨⟨[60, 61]⟩⟩))] trivial (by kernel_rfl) rfl fun gg22 => ?_
        refine wr 1 [] 10 22 [] [(22, (.bool ((decide ((2 : Int) ≤ (s.length : Int))) && ((s.take 2) == ([60, 61] : List UInt8)))))] (vA (fun (g1 : (decide ((2 : Int) ≤ (s.length : Int))) = true) => (vA (show (0 : Int) ≤ 2 from by (try simp only [BS] at g1); (first | omega | (show _ < 23; omega))) (show (2 : Int) ≤ (((s : List UInt8).length : Nat) : Int) from by (try simp only [BS] at g1); (first | omega | (show _ < 23; omega))))) trivial) (by kernel_rfl) rfl fun gg23 => ?_
        refine wk_if 1 2 (v := ((decide ((2 : Int) ≤ (s.length : Int))) && ((s.take 2) == ([60, 61] : List UInt8)))) rfl rfl rfl rfl (fun c24b => ?_) (fun c24b => ?_)
        · have c24 := c24b
          try simp only [BS] at c24
          have nn := (c24).2
          refine wr 1 [] 1 0 [2, 23, 24] [(2, (.int .i64 2))] trivial (by kernel_rfl) rfl fun gg25 => ?_
          refine wk_ret ⟨.inr rfl, _, rfl, 2, rfl, rfl, (by simp only [symLen, *, ↓reduceIte, true_or, or_true])⟩
        · have c24 := c24b
          try simp only [BS] at c24
          first | have nn := tk3 c24 | have nn := tk2 c24
          refine wr 1 [] 1 0 [7, 25] [(7, (.int .i64 4))] (vA (vi (n := (4 : Int)) (by first | omega | (show _ < 23; omega))) trivial) (by kernel_rfl) rfl fun gg26 => ?_
          refine wk_loop ?_
          refine wk_foc 1 rfl ?_
          refine wr 2 [] 8 8 [] [(8, (.bool true))] trivial (by kernel_rfl) rfl fun gg27 => ?_
          refine wk_ift 4 (v := true) rfl rfl rfl rfl ?_
          refine wr 2 [] 9 9 [4] [(4, (.string ⟨⟨[62, 61]⟩⟩))] trivial (by kernel_rfl) rfl fun gg28 => ?_
          refine wr 1 [] 10 22 [] [(22, (.bool ((decide ((2 : Int) ≤ (s.length : Int))) && ((s.take 2) == ([62, 61] : List UInt8)))))] (vA (fun (g1 : (decide ((2 : Int) ≤ (s.length : Int))) = true) => (vA (show (0 : Int) ≤ 2 from by (try simp only [BS] at g1); (first | omega | (show _ < 23; omega))) (show (2 : Int) ≤ (((s : List UInt8).length : Nat) : Int) from by (try simp only [BS] at g1); (first | omega | (show _ < 23; omega))))) trivial) (by kernel_rfl) rfl fun gg29 => ?_
          refine wk_if 1 2 (v := ((decide ((2 : Int) ≤ (s.length : Int))) && ((s.take 2) == ([62, 61] : List UInt8)))) rfl rfl rfl rfl (fun c30b => ?_) (fun c30b => ?_)
          · have c30 := c30b
            try simp only [BS] at c30
            have nn := (c30).2
            refine wr 1 [] 1 0 [2, 23, 24] [(2, (.int .i64 2))] trivial (by kernel_rfl) rfl fun gg31 => ?_
            refine wk_ret ⟨.inr rfl, _, rfl, 2, rfl, rfl, (by simp only [symLen, *, ↓reduceIte, true_or, or_true])⟩
          · have c30 := c30b
            try simp only [BS] at c30
            first | have nn := tk3 c30 | have nn := tk2 c30
            refine wr 1 [] 1 0 [7, 25] [(7, (.int .i64 5))] (vA (vi (n := (5 : Int)) (by first | omega | (show _ < 23; omega))) trivial) (by kernel_rfl) rfl fun gg32 => ?_
            refine wk_loop ?_
            refine wk_foc 1 rfl ?_
            refine wr 2 [] 8 8 [] [(8, (.bool true))] trivial (by kernel_rfl) rfl fun gg33 => ?_
            refine wk_ift 4 (v := true) rfl rfl rfl rfl ?_
            refine wr 2 [] 9 9 [4] [(4, (.string ⟨⟨[61, 61]⟩⟩))] trivial (by kernel_rfl) rfl fun gg34 => ?_
            refine wr 1 [] 10 22 [] [(22, (.bool ((decide ((2 : Int) ≤ (s.length : Int))) && ((s.take 2) == ([61, 61] : List UInt8)))))] (vA (fun (g1 : (decide ((2 : Int) ≤ (s.length : Int))) = true) => (vA (show (0 : Int) ≤ 2 from by (try simp only [BS] at g1); (first | omega | (show _ < 23; omega))) (show (2 : Int) ≤ (((s : List UInt8).length : Nat) : Int) from by (try simp only [BS] at g1); (first | omega | (show _ < 23; omega))))) trivial) (by kernel_rfl) rfl fun gg35 => ?_
            refine wk_if 1 2 (v := ((decide ((2 : Int) ≤ (s.length : Int))) && ((s.take 2) == ([61, 61] : List UInt8)))) rfl rfl rfl rfl (fun c36b => ?_) (fun c36b => ?_)
            · have c36 := c36b
              try simp only [BS] at c36
              have nn := (c36).2
              refine wr 1 [] 1 0 [2, 23, 24] [(2, (.int .i64 2))] trivial (by kernel_rfl) rfl fun gg37 => ?_
              refine wk_ret ⟨.inr rfl, _, rfl, 2, rfl, rfl, (by simp only [symLen, *, ↓reduceIte, true_or, or_true])⟩
            · have c36 := c36b
              try simp only [BS] at c36
              first | have nn := tk3 c36 | have nn := tk2 c36
              refine wr 1 [] 1 0 [7, 25] [(7, (.int .i64 6))] (vA (vi (n := (6 : Int)) (by first | omega | (show _ < 23; omega))) trivial) (by kernel_rfl) rfl fun gg38 => ?_
              refine wk_loop ?_
              refine wk_foc 1 rfl ?_
              refine wr 2 [] 8 8 [] [(8, (.bool true))] trivial (by kernel_rfl) rfl fun gg39 => ?_
              refine wk_ift 4 (v := true) rfl rfl rfl rfl ?_
              refine wr 2 [] 9 9 [4] [(4, (.string ⟨⟨[33, 61]⟩⟩))] trivial (by kernel_rfl) rfl fun gg40 => ?_
              refine wr 1 [] 10 22 [] [(22, (.bool ((decide ((2 : Int) ≤ (s.length : Int))) && ((s.take 2) == ([33, 61] : List UInt8)))))] (vA (fun (g1 : (decide ((2 : Int) ≤ (s.length : Int))) = true) => (vA (show (0 : Int) ≤ 2 from by (try simp only [BS] at g1); (first | omega | (show _ < 23; omega))) (show (2 : Int) ≤ (((s : List UInt8).length : Nat) : Int) from by (try simp only [BS] at g1); (first | omega | (show _ < 23; omega))))) trivial) (by kernel_rfl) rfl fun gg41 => ?_
              refine wk_if 1 2 (v := ((decide ((2 : Int) ≤ (s.length : Int))) && ((s.take 2) == ([33, 61] : List UInt8)))) rfl rfl rfl rfl (fun c42b => ?_) (fun c42b => ?_)
              · have c42 := c42b
                try simp only [BS] at c42
                have nn := (c42).2
                refine wr 1 [] 1 0 [2, 23, 24] [(2, (.int .i64 2))] trivial (by kernel_rfl) rfl fun gg43 => ?_
                refine wk_ret ⟨.inr rfl, _, rfl, 2, rfl, rfl, (by simp only [symLen, *, ↓reduceIte, true_or, or_true])⟩
              · have c42 := c42b
                try simp only [BS] at c42
                first | have nn := tk3 c42 | have nn := tk2 c42
                refine wr 1 [] 1 0 [7, 25] [(7, (.int .i64 7))] (vA (vi (n := (7 : Int)) (by first | omega | (show _ < 23; omega))) trivial) (by kernel_rfl) rfl fun gg44 => ?_
                refine wk_loop ?_
                refine wk_foc 1 rfl ?_
                refine wr 2 [] 8 8 [] [(8, (.bool false))] trivial (by kernel_rfl) rfl fun gg45 => ?_
                refine wk_iff 6 (v := false) rfl rfl rfl rfl ?_
                refine wr 2 [] 1 0 [5] [(5, (.int .i64 0))] trivial (by kernel_rfl) rfl fun gg46 => ?_
                refine wk_loop_inv (fun (mm : Nat) f H' => ∃ (i : Nat), H' = H ∧ agrees f [(0, (.string ⟨⟨s⟩⟩)), (5, (.int .i64 (i : Int)))] ∧ mm = 23 - i ∧ (i ≤ 23) ∧ (∀ j, j < i → s.getD 0 0 ≠ singles.getD j 0)) _ ⟨0, rfl, (agC rfl (agC rfl agN)), rfl, (by first | assumption | omega | (simp at *; omega)), (by intro j hj; omega)⟩ ?_
                rintro mm47 f47 H ⟨i, rfl, hf47, rfl, h1, h2⟩ ih47
                refine wk_canon _ hf47 (fun gg47 => ?_)
                clear hf47
                refine wk_foc 2 rfl ?_
                refine wr 1 [] 26 27 [] [(27, (.bool (decide ((i : Int) < 23))))] trivial (by kernel_rfl) rfl fun gg48 => ?_
                refine wk_if 4 5 (v := (decide ((i : Int) < 23))) rfl rfl rfl rfl (fun c49b => ?_) (fun c49b => ?_)
                · have c49 := c49b
                  try simp only [BS] at c49
                  have u8_50 := u8_lt (s.getD 0 0)
                  have u8_51 := u8_lt (([43, 45, 42, 47, 37, 38, 124, 94, 126, 33, 60, 62, 61, 63, 58, 59, 44, 40, 41, 123, 125, 91, 93] : List UInt8).getD i 0)
                  refine wrD 1 [] 30 34 [] [(34, (.bool (((s.getD 0 0).toNat : Int) == ((([43, 45, 42, 47, 37, 38, 124, 94, 126, 33, 60, 62, 61, 63, 58, 59, 44, 40, 41, 123, 125, 91, 93] : List UInt8).getD i 0).toNat : Int))))] (vA (vA (show (0 : Int) ≤ 0 from by first | omega | (show _ < 23; omega)) (show (0 : Int) < (((s : List UInt8).length : Nat) : Int) from by first | omega | (show _ < 23; omega))) (vA (vA (show (0 : Int) ≤ (i : Int) from by first | omega | (show _ < 23; omega)) (show (i : Int) < ((([43, 45, 42, 47, 37, 38, 124, 94, 126, 33, 60, 62, 61, 63, 58, 59, 44, 40, 41, 123, 125, 91, 93] : List UInt8).length : Nat) : Int) from by first | omega | (show _ < 23; omega))) trivial)) rfl (by kernel_rfl) rfl fun gg52 => ?_
                  refine wk_if 1 2 (v := (((s.getD 0 0).toNat : Int) == ((([43, 45, 42, 47, 37, 38, 124, 94, 126, 33, 60, 62, 61, 63, 58, 59, 44, 40, 41, 123, 125, 91, 93] : List UInt8).getD i 0).toNat : Int))) rfl rfl rfl rfl (fun c53b => ?_) (fun c53b => ?_)
                  · have c53 := c53b
                    try simp only [BS] at c53
                    have ci := c53
                    refine wr 1 [] 2 2 [] [(2, (.int .i64 1))] trivial (by kernel_rfl) rfl fun gg54 => ?_
                    refine wk_ret ⟨.inr rfl, _, rfl, 1, rfl, rfl, (by have ms := sing_mem (by omega) ci; simp only [symLen, *, ↓reduceIte, or_self])⟩
                  · have c53 := c53b
                    try simp only [BS] at c53
                    have ci := c53
                    refine wr 1 [] 28 29 [5] [(5, (.int .i64 ((i : Int) + 1)))] (vA (vi (n := (i : Int) + 1) (by first | omega | (show _ < 23; omega))) trivial) (by kernel_rfl) rfl fun gg55 => ?_
                    refine ih47 _ _ _ ?_ ⟨i + 1, rfl, (agC rfl (agC rfl agN)), rfl, (by first | assumption | omega | (simp at *; omega)), (by exact fun j hj => sing_ne ci h2 hj)⟩
                    omega
                · have c49 := c49b
                  try simp only [BS] at c49
                  refine wr 1 [] 2 2 [] [(2, (.int .i64 0))] trivial (by kernel_rfl) rfl fun gg56 => ?_
                  refine wk_ret ⟨.inr rfl, _, rfl, 0, rfl, rfl, (by have ms := sing_no (fun j hj => h2 j (by omega)); simp only [symLen, *, ↓reduceIte, or_self])⟩

theorem symLen_c_q (ex : FuncId) (s : List UInt8) (H : Heap) (h0 : 0 < s.length) : C Try.prog 0 (KX ex) 55 [(.string ⟨⟨s⟩⟩)] H fun v H' => v = (.int .i64 ((symLen s : Nat) : Int)) ∧ H' = H :=
  cq (symLen_c ex s H h0) (by rintro _ _ ⟨_, rfl, rfl, rfl⟩; exact ⟨rfl, rfl⟩)

def spl : Bool → List UInt8 → Nat
  | _, [] => 0
  | false, c :: s => if c = 32 ∨ c = 9 ∨ c = 10 ∨ c = 13 then 1 + spl false s else if c = 35 then 1 + spl true s else 0
  | true, c :: s => if c = 10 then 1 + spl false s else 1 + spl true s
theorem spl_le : ∀ (s : List UInt8) (b : Bool), spl b s ≤ s.length
  | [], b => by simp [spl]
  | c :: s, false => by
    have h1 := spl_le s false; have h2 := spl_le s true
    rw [spl, List.length_cons]; split
    · omega
    · split <;> omega
  | c :: s, true => by
    have h1 := spl_le s false; have h2 := spl_le s true
    rw [spl, List.length_cons]; split <;> omega
theorem dropc {s : List UInt8} {n : Nat} (h : n < s.length) : s.drop n = s.getD n 0 :: s.drop (n + 1) := by
  rw [List.drop_eq_getElem_cons h, List.getD_eq_getElem?_getD, List.getElem?_eq_getElem h]; rfl
theorem u8i {c : UInt8} {k : Nat} (hk : k < 256) (h : (c.toNat : Int) = (k : Int)) : c = UInt8.ofNat k := by
  apply UInt8.toNat_inj.mp
  rw [UInt8.toNat_ofNat']
  omega
theorem u8e {c : UInt8} (k : Nat) (h : c = UInt8.ofNat k) (hk : k < 256 := by omega) : (c.toNat : Int) = (k : Int) := by
  rw [h, UInt8.toNat_ofNat']; omega
theorem spE {b : Bool} {s : List UInt8} {n : Nat} (h : ¬ n < s.length) (hn : n ≤ s.length) (e : n + spl b (s.drop n) = spl false s) : n = spl false s := by
  rw [List.drop_of_length_le (by omega)] at e
  simpa [spl] using e
theorem spA {s : List UInt8} {n : Nat} (h : n < s.length) (c : s.getD n 0 = 32 ∨ s.getD n 0 = 9 ∨ s.getD n 0 = 10 ∨ s.getD n 0 = 13) (e : n + spl false (s.drop n) = spl false s) : n + 1 + spl false (s.drop (n + 1)) = spl false s := by
  rw [dropc h, spl, if_pos c] at e; omega
theorem spH {s : List UInt8} {n : Nat} (h : n < s.length) (c : s.getD n 0 = 35) (e : n + spl false (s.drop n) = spl false s) : n + spl true (s.drop n) = spl false s := by
  rw [dropc h, spl, if_neg (by rw [c]; decide), if_pos c] at e
  rw [dropc h, spl, if_neg (by rw [c]; decide)]; exact e
theorem spT {s : List UInt8} {n : Nat} (h : n < s.length) (c : s.getD n 0 ≠ 10) (e : n + spl true (s.drop n) = spl false s) : n + 1 + spl true (s.drop (n + 1)) = spl false s := by
  rw [dropc h, spl, if_neg c] at e; omega
theorem spN {s : List UInt8} {n : Nat} (hn : n ≤ s.length) (c : n < s.length → s.getD n 0 = 10) (e : n + spl true (s.drop n) = spl false s) : n + spl false (s.drop n) = spl false s := by
  by_cases h : n < s.length
  · rw [dropc h, spl, if_pos (c h)] at e
    rw [dropc h, spl, if_pos (.inr (.inr (.inl (c h))))]; exact e
  · rw [List.drop_of_length_le (by omega)] at e ⊢; exact e
theorem spX {s : List UInt8} {n : Nat} (h : n < s.length) (c : ¬(s.getD n 0 = 32 ∨ s.getD n 0 = 9 ∨ s.getD n 0 = 10 ∨ s.getD n 0 = 13)) (c2 : s.getD n 0 ≠ 35) (e : n + spl false (s.drop n) = spl false s) : n = spl false s := by
  rw [dropc h, spl, if_neg c, if_neg c2] at e; exact e

theorem spaceLen_c (ex : FuncId) (s : List UInt8) (H : Heap) (hl : s.length < 4611686018427387904) : C Try.prog 0 (KX ex) 40 [(.string ⟨⟨s⟩⟩)] H fun v H' => ∃ (r : Nat), H' = H ∧ v = .int .i64 (r : Int) ∧ r = spl false s := by
  refine c_enter Try.func40 rfl rfl ?_
  refine wk_foc 1 rfl ?_
  refine wr 2 [] 2 2 [] [(2, (.int .i64 0))] trivial (by kernel_rfl) rfl fun gg1 => ?_
  refine wr 3 [] 1 0 [3] [(3, (.int .i64 0))] trivial (by kernel_rfl) rfl fun gg2 => ?_
  refine wk_loop_inv (fun (mm : Nat) f H' => ∃ (n : Nat), H' = H ∧ agrees f [(0, (.string ⟨⟨s⟩⟩)), (3, (.int .i64 (n : Int)))] ∧ mm = s.length - n ∧ (n ≤ s.length) ∧ (n + spl false (s.drop n) = spl false s)) _ ⟨0, rfl, (agC rfl (agC rfl agN)), rfl, (by first | assumption | omega | (simp at *; omega)), (by simp)⟩ ?_
  rintro mm3 f3 H ⟨n, rfl, hf3, rfl, h1, h2⟩ ih3
  refine wk_canon _ hf3 (fun gg3 => ?_)
  clear hf3
  refine wk_foc 2 rfl ?_
  refine wr 1 [] 4 7 [] [(7, (.bool (decide ((n : Int) < (s.length : Int)))))] trivial (by kernel_rfl) rfl fun gg4 => ?_
  refine wk_if 3 5 (v := (decide ((n : Int) < (s.length : Int)))) rfl rfl rfl rfl (fun c5b => ?_) (fun c5b => ?_)
  · have c5 := c5b
    try simp only [BS] at c5
    have u8_6 := u8_lt (s.getD n 0)
    refine wr 4 [] 8 10 [] [(10, (.int .u8 ((s.getD n 0).toNat : Int)))] (vA (vA (show (0 : Int) ≤ (n : Int) from by omega) (show (n : Int) < (((s : List UInt8).length : Nat) : Int) from by omega)) trivial) (by kernel_rfl) rfl fun gg7 => ?_
    refine wr 1 [] 12 13 [] [(12, (.bool (((s.getD n 0).toNat : Int) == 32)))] trivial (by kernel_rfl) rfl fun gg8 => ?_
    refine wk_if 1 1 (v := (((s.getD n 0).toNat : Int) == 32)) rfl rfl rfl rfl (fun c9b => ?_) (fun c9b => ?_)
    · have c9 := c9b
      try simp only [BS] at c9
      refine wk_ift 0 (v := (((s.getD n 0).toNat : Int) == 32)) rfl c9b rfl rfl ?_
      refine wr 3 [] 17 18 [3] [(3, (.int .i64 ((n : Int) + 1)))] (vA (vi (n := (n : Int) + 1) (by omega)) trivial) (by kernel_rfl) rfl fun gg10 => ?_
      refine ih3 _ _ _ ?_ ⟨n + 1, rfl, (agC rfl (agC rfl agN)), rfl, (by first | assumption | omega | (simp at *; omega)), (by first | exact spA (by omega) (.inl (u8i (k := 32) (by omega) (by omega))) h2 | exact spA (by omega) (.inr (.inl (u8i (k := 9) (by omega) (by omega)))) h2 | exact spA (by omega) (.inr (.inr (.inl (u8i (k := 10) (by omega) (by omega))))) h2 | exact spA (by omega) (.inr (.inr (.inr (u8i (k := 13) (by omega) (by omega))))) h2 | exact spN g1 (fun h => (u8i (k := 10) (by omega) (by omega))) g2)⟩
      omega
    · have c9 := c9b
      try simp only [BS] at c9
      refine wr 1 [] 12 14 [] [(12, (.bool (((s.getD n 0).toNat : Int) == 9)))] trivial (by kernel_rfl) rfl fun gg11 => ?_
      refine wk_if 1 1 (v := (((s.getD n 0).toNat : Int) == 9)) rfl rfl rfl rfl (fun c12b => ?_) (fun c12b => ?_)
      · have c12 := c12b
        try simp only [BS] at c12
        refine wk_ift 0 (v := (((s.getD n 0).toNat : Int) == 9)) rfl c12b rfl rfl ?_
        refine wr 3 [] 17 18 [3] [(3, (.int .i64 ((n : Int) + 1)))] (vA (vi (n := (n : Int) + 1) (by omega)) trivial) (by kernel_rfl) rfl fun gg13 => ?_
        refine ih3 _ _ _ ?_ ⟨n + 1, rfl, (agC rfl (agC rfl agN)), rfl, (by first | assumption | omega | (simp at *; omega)), (by first | exact spA (by omega) (.inl (u8i (k := 32) (by omega) (by omega))) h2 | exact spA (by omega) (.inr (.inl (u8i (k := 9) (by omega) (by omega)))) h2 | exact spA (by omega) (.inr (.inr (.inl (u8i (k := 10) (by omega) (by omega))))) h2 | exact spA (by omega) (.inr (.inr (.inr (u8i (k := 13) (by omega) (by omega))))) h2 | exact spN g1 (fun h => (u8i (k := 10) (by omega) (by omega))) g2)⟩
        omega
      · have c12 := c12b
        try simp only [BS] at c12
        refine wr 1 [] 12 15 [] [(12, (.bool (((s.getD n 0).toNat : Int) == 10)))] trivial (by kernel_rfl) rfl fun gg14 => ?_
        refine wk_if 1 0 (v := (((s.getD n 0).toNat : Int) == 10)) rfl rfl rfl rfl (fun c15b => ?_) (fun c15b => ?_)
        · have c15 := c15b
          try simp only [BS] at c15
          refine wk_ift 0 (v := (((s.getD n 0).toNat : Int) == 10)) rfl c15b rfl rfl ?_
          refine wr 3 [] 17 18 [3] [(3, (.int .i64 ((n : Int) + 1)))] (vA (vi (n := (n : Int) + 1) (by omega)) trivial) (by kernel_rfl) rfl fun gg16 => ?_
          refine ih3 _ _ _ ?_ ⟨n + 1, rfl, (agC rfl (agC rfl agN)), rfl, (by first | assumption | omega | (simp at *; omega)), (by first | exact spA (by omega) (.inl (u8i (k := 32) (by omega) (by omega))) h2 | exact spA (by omega) (.inr (.inl (u8i (k := 9) (by omega) (by omega)))) h2 | exact spA (by omega) (.inr (.inr (.inl (u8i (k := 10) (by omega) (by omega))))) h2 | exact spA (by omega) (.inr (.inr (.inr (u8i (k := 13) (by omega) (by omega))))) h2 | exact spN g1 (fun h => (u8i (k := 10) (by omega) (by omega))) g2)⟩
          omega
        · have c15 := c15b
          try simp only [BS] at c15
          refine wr 1 [] 12 16 [] [(12, (.bool (((s.getD n 0).toNat : Int) == 13)))] trivial (by kernel_rfl) rfl fun gg17 => ?_
          refine wk_if 0 1 (v := (((s.getD n 0).toNat : Int) == 13)) rfl rfl rfl rfl (fun c18b => ?_) (fun c18b => ?_)
          · have c18 := c18b
            try simp only [BS] at c18
            refine wr 3 [] 17 18 [3] [(3, (.int .i64 ((n : Int) + 1)))] (vA (vi (n := (n : Int) + 1) (by omega)) trivial) (by kernel_rfl) rfl fun gg19 => ?_
            refine ih3 _ _ _ ?_ ⟨n + 1, rfl, (agC rfl (agC rfl agN)), rfl, (by first | assumption | omega | (simp at *; omega)), (by first | exact spA (by omega) (.inl (u8i (k := 32) (by omega) (by omega))) h2 | exact spA (by omega) (.inr (.inl (u8i (k := 9) (by omega) (by omega)))) h2 | exact spA (by omega) (.inr (.inr (.inl (u8i (k := 10) (by omega) (by omega))))) h2 | exact spA (by omega) (.inr (.inr (.inr (u8i (k := 13) (by omega) (by omega))))) h2 | exact spN g1 (fun h => (u8i (k := 10) (by omega) (by omega))) g2)⟩
            omega
          · have c18 := c18b
            try simp only [BS] at c18
            refine wr 1 [] 19 20 [] [(19, (.bool (((s.getD n 0).toNat : Int) == 35)))] trivial (by kernel_rfl) rfl fun gg20 => ?_
            refine wk_if 1 1 (v := (((s.getD n 0).toNat : Int) == 35)) rfl rfl rfl rfl (fun c21b => ?_) (fun c21b => ?_)
            · have c21 := c21b
              try simp only [BS] at c21
              refine wk_loop_inv (fun (mm : Nat) f H' => ∃ (m : Nat), H' = H ∧ agrees f [(0, (.string ⟨⟨s⟩⟩)), (3, (.int .i64 (m : Int))), (7, (.bool (decide ((n : Int) < (s.length : Int))))), (10, (.int .u8 ((s.getD n 0).toNat : Int))), (12, (.bool (((s.getD n 0).toNat : Int) == 13))), (19, (.bool (((s.getD n 0).toNat : Int) == 35)))] ∧ mm = s.length - m ∧ (m ≤ s.length) ∧ (m + spl true (s.drop m) = spl false s) ∧ (n ≤ m)) _ ⟨n, rfl, (agC rfl (agC rfl (agC rfl (agC rfl (agC rfl (agC rfl agN)))))), rfl, (by first | assumption | omega | (simp at *; omega)), (by exact spH (by omega) (u8i (k := 35) (by omega) (by omega)) h2), (by first | assumption | omega | (simp at *; omega))⟩ ?_
              rintro mm22 f22 H ⟨m, rfl, hf22, rfl, g1, g2, g3⟩ ih22
              refine wk_canon _ hf22 (fun gg22 => ?_)
              clear hf22
              refine wk_foc 2 rfl ?_
              have u8_23 := u8_lt (s.getD m 0)
              refine wr 1 [] 21 30 [] [(30, (.bool ((decide ((m : Int) < (s.length : Int))) && (((s.getD m 0).toNat : Int) != 10))))] (vA (fun (g1 : (decide ((m : Int) < (s.length : Int))) = true) => (vA (show (0 : Int) ≤ (m : Int) from by (try simp only [BS] at g1); omega) (show (m : Int) < (((s : List UInt8).length : Nat) : Int) from by (try simp only [BS] at g1); omega))) trivial) (by kernel_rfl) rfl fun gg24 => ?_
              refine wk_if 2 6 (v := ((decide ((m : Int) < (s.length : Int))) && (((s.getD m 0).toNat : Int) != 10))) rfl rfl rfl rfl (fun c25b => ?_) (fun c25b => ?_)
              · have c25 := c25b
                try simp only [BS] at c25
                refine wr 2 [] 31 32 [3] [(3, (.int .i64 ((m : Int) + 1)))] (vA (vi (n := (m : Int) + 1) (by omega)) trivial) (by kernel_rfl) rfl fun gg26 => ?_
                refine ih22 _ _ _ ?_ ⟨m + 1, rfl, (agC rfl (agC rfl (agC rfl (agC rfl (agC rfl (agC rfl agN)))))), rfl, (by first | assumption | omega | (simp at *; omega)), (by exact spT (by omega) (fun h => by have := u8e 10 h; omega) g2), (by first | assumption | omega | (simp at *; omega))⟩
                omega
              · have c25 := c25b
                try simp only [BS] at c25
                have gm : n < m := by
                  rcases Nat.lt_or_ge n m with h | h
                  · exact h
                  · exfalso; have e : m = n := by omega
                    subst e; omega
                refine ih3 _ _ _ ?_ ⟨m, rfl, (agC rfl (agC rfl agN)), rfl, (by first | assumption | omega | (simp at *; omega)), (by first | exact spA (by omega) (.inl (u8i (k := 32) (by omega) (by omega))) h2 | exact spA (by omega) (.inr (.inl (u8i (k := 9) (by omega) (by omega)))) h2 | exact spA (by omega) (.inr (.inr (.inl (u8i (k := 10) (by omega) (by omega))))) h2 | exact spA (by omega) (.inr (.inr (.inr (u8i (k := 13) (by omega) (by omega))))) h2 | exact spN g1 (fun h => (u8i (k := 10) (by omega) (by omega))) g2)⟩
                omega
            · have c21 := c21b
              try simp only [BS] at c21
              refine wr 1 [] 1 0 [2, 11] [(2, (.int .i64 (n : Int)))] trivial (by kernel_rfl) rfl fun gg27 => ?_
              refine wk_ret ⟨.inr rfl, _, rfl, n, rfl, rfl, (by first | exact spX (by omega) (by rintro (h | h | h | h) <;> (first | (have := u8e 32 h; omega) | (have := u8e 9 h; omega) | (have := u8e 10 h; omega) | (have := u8e 13 h; omega))) (fun h => by have := u8e 35 h; omega) h2 | exact spE (by omega) h1 h2)⟩
  · have c5 := c5b
    try simp only [BS] at c5
    refine wr 1 [] 1 0 [2, 33] [(2, (.int .i64 (n : Int)))] trivial (by kernel_rfl) rfl fun gg28 => ?_
    refine wk_ret ⟨.inr rfl, _, rfl, n, rfl, rfl, (by first | exact spX (by omega) (by rintro (h | h | h | h) <;> (first | (have := u8e 32 h; omega) | (have := u8e 9 h; omega) | (have := u8e 10 h; omega) | (have := u8e 13 h; omega))) (fun h => by have := u8e 35 h; omega) h2 | exact spE (by omega) h1 h2)⟩

theorem spaceLen_c_q (ex : FuncId) (s : List UInt8) (H : Heap) (hl : s.length < 4611686018427387904) : C Try.prog 0 (KX ex) 40 [(.string ⟨⟨s⟩⟩)] H fun v H' => v = (.int .i64 ((spl false s : Nat) : Int)) ∧ H' = H :=
  cq (spaceLen_c ex s H hl) (by rintro _ _ ⟨_, rfl, rfl, rfl⟩; exact ⟨rfl, rfl⟩)

/-- kind, text and error of the token at the beginning of a text -/
def firstK (s : List UInt8) : Int × List UInt8 × Int :=
  if wordLen s = 0 then (if symLen s = 0 then (0, [], 2) else (3, s.take (symLen s), 0))
  else if isDigB (s.getD 0 0) = true then (if validNum (s.take (wordLen s)) = true then (2, s.take (wordLen s), 0) else (0, [], 2))
  else if 16 < wordLen s then (0, [], 6) else (1, s.take (wordLen s), 0)
theorem symLen_le {s : List UInt8} (h0 : 0 < s.length) : symLen s ≤ s.length := by
  have l3 : ∀ {w : List UInt8} {n : Nat}, s.take n = w → w.length = n → n ≤ s.length := by
    intro w n e hw
    have := congrArg List.length e
    rw [List.length_take] at this; omega
  rw [symLen]; split
  · exact l3 ‹_› rfl
  · split
    · rename_i h; rcases h with h | h | h | h | h | h <;> exact l3 h rfl
    · split <;> omega

theorem first_c (ex : FuncId) (s : List UInt8) {F : Fz} {H : Heap} {R : List Fp} (hs : HS (.of H []) F H [] R) (h0 : 0 < s.length) (hl : s.length < 4611686018427387904) : C Try.prog 0 (KX ex) 41 [(.string ⟨⟨s⟩⟩)] H fun v H' => ∃ (t : Token) (e : Int) (F' : Fz), Fz.le F F' ∧ HS (.of H []) F' H' [] R ∧ v = .tuple ⟨[.agg ⟨[.int .i64 t.kind, .string ⟨⟨t.text.b⟩⟩, .int .i64 t.at_]⟩, .int .i64 e]⟩ ∧ in64 t.kind ∧ in64 t.at_ ∧ t = Token.mk (firstK s).1 (Str.mk (firstK s).2.1) 0 ∧ e = (firstK s).2.2 := by
  have hw := wordLen_le s
  have hy := symLen_le h0
  refine c_enter Try.func41 rfl rfl ?_
  refine wk_foc 1 rfl ?_
  refine wk_region ?_
  refine wo_rs (rs_new hs rfl) rfl rfl ?_
  rintro _ H2 _ ⟨b1, rfl, hs2, _⟩
  have hs2 : HS (Base.of H []) F H2 [[(b1, .cells [(.int .i64 0), (.string ⟨⟨[]⟩⟩), (.int .i64 0)] none false)]] R := hs2
  refine wa (.int .i64 0) rfl rfl rfl ?_
  refine wo_end 2 rfl ?_
  refine wr 4 [(1, .o (.int .i64 ((wordLen s : Nat) : Int)))] 5 6 [4] [(4, (.int .i64 ((wordLen s : Nat) : Int)))] (vA (wordLen_c_q ex s H2 (by first | omega | (dsimp only; omega) | (rw [List.length_take]; omega))) trivial) (by kernel_rfl) rfl fun gg3 => ?_
  refine wr 1 [] 7 9 [] [(7, (.bool (((wordLen s : Nat) : Int) == 0)))] trivial (by kernel_rfl) rfl fun gg4 => ?_
  refine wk_if 2 1 (v := (((wordLen s : Nat) : Int) == 0)) rfl rfl rfl rfl (fun c5b => ?_) (fun c5b => ?_)
  · have c5 := c5b
    try simp only [BS] at c5
    have z0 : wordLen s = 0 := by omega
    refine wr 2 [(1, .o (.int .i64 ((symLen s : Nat) : Int)))] 10 11 [4] [(4, (.int .i64 ((symLen s : Nat) : Int)))] (vA (symLen_c_q ex s H2 (by first | omega | (dsimp only; omega) | (rw [List.length_take]; omega))) trivial) (by kernel_rfl) rfl fun gg6 => ?_
    refine wr 1 [] 12 13 [] [(13, (.bool (((symLen s : Nat) : Int) == 0)))] trivial (by kernel_rfl) rfl fun gg7 => ?_
    refine wk_if 1 2 (v := (((symLen s : Nat) : Int) == 0)) rfl rfl rfl rfl (fun c8b => ?_) (fun c8b => ?_)
    · have c8 := c8b
      try simp only [BS] at c8
      have z1 : symLen s = 0 := by omega
      refine wk_region ?_
      refine wro 1 0 [] 14 14 [] [(14, (.agg ⟨[(.int .i64 0), (.string ⟨⟨[]⟩⟩), (.int .i64 0)]⟩))] trivial (by kernel_rfl) rfl fun gg9 => ?_
      refine wo_rk (rs_rec (q := 0) hs2 rfl rfl rfl rfl rfl rfl rfl rfl rfl) rfl ?_
      rintro _ H10 _ ⟨hs10, _⟩
      have hs10 : HS (Base.of H []) F H10 [[(b1, .cells [(.int .i64 0), (.string ⟨⟨[]⟩⟩), (.int .i64 0)] none false)]] R := hs10
      refine wa (.int .i64 2) rfl rfl rfl ?_
      refine wo_end 1 rfl ?_
      refine wk_ret ⟨.inr rfl, _, (rC rfl (ldVN rfl rfl (HS.hc hs10 (i := 0) rfl) rfl) (rT rfl rN)), (⟨0, ⟨[]⟩, 0⟩ : Token), 2, _, (Fz.le_refl _), (HS.forget hs10), rfl, (by first | omega | (dsimp only; omega) | (rw [List.length_take]; omega)), (by first | omega | (dsimp only; omega) | (rw [List.length_take]; omega)), (by simp only [firstK, *, ↓reduceIte, Bool.false_eq_true, not_false_eq_true]), (by simp only [firstK, *, ↓reduceIte, Bool.false_eq_true, not_false_eq_true])⟩
    · have c8 := c8b
      try simp only [BS] at c8
      have z1 : ¬ symLen s = 0 := by omega
      refine wk_region ?_
      refine wro 4 0 [] 15 18 [] [(18, (.agg ⟨[(.int .i64 3), (.string ⟨⟨s.take (symLen s)⟩⟩), (.int .i64 0)]⟩))] (vA (vA (show (0 : Int) ≤ ((symLen s : Nat) : Int) from by first | omega | (dsimp only; omega) | (rw [List.length_take]; omega)) (show ((symLen s : Nat) : Int) ≤ (((s : List UInt8).length : Nat) : Int) from by first | omega | (dsimp only; omega) | (rw [List.length_take]; omega))) trivial) (by kernel_rfl) rfl fun gg11 => ?_
      refine wo_rk (rs_rec (q := 0) hs2 rfl rfl rfl rfl rfl rfl rfl rfl rfl) rfl ?_
      rintro _ H12 _ ⟨hs12, _⟩
      have hs12 : HS (Base.of H []) F H12 [[(b1, .cells [(.int .i64 3), (.string ⟨⟨s.take (symLen s)⟩⟩), (.int .i64 0)] none false)]] R := hs12
      refine wa (.int .i64 0) rfl rfl rfl ?_
      refine wo_end 1 rfl ?_
      refine wk_ret ⟨.inr rfl, _, (rC rfl (ldVN rfl rfl (HS.hc hs12 (i := 0) rfl) rfl) (rT rfl rN)), (⟨3, ⟨s.take (symLen s)⟩, 0⟩ : Token), 0, _, (Fz.le_refl _), (HS.forget hs12), rfl, (by first | omega | (dsimp only; omega) | (rw [List.length_take]; omega)), (by first | omega | (dsimp only; omega) | (rw [List.length_take]; omega)), (by simp only [firstK, *, ↓reduceIte, Bool.false_eq_true, not_false_eq_true]), (by simp only [firstK, *, ↓reduceIte, Bool.false_eq_true, not_false_eq_true])⟩
  · have c5 := c5b
    try simp only [BS] at c5
    have z0 : ¬ wordLen s = 0 := by omega
    have u8_13 := u8_lt (s.getD 0 0)
    refine wr 1 [(2, .o (.bool (isDigB (s.getD 0 0))))] 19 22 [] [(19, (.bool (isDigB (s.getD 0 0))))] (vA (vA (show (0 : Int) ≤ 0 from by first | omega | (dsimp only; omega) | (rw [List.length_take]; omega)) (show (0 : Int) < (((s : List UInt8).length : Nat) : Int) from by first | omega | (dsimp only; omega) | (rw [List.length_take]; omega))) (vA (isDigit_c_q ex (s.getD 0 0) H2) trivial)) (by kernel_rfl) rfl fun gg14 => ?_
    refine wk_if 2 1 (v := (isDigB (s.getD 0 0))) rfl rfl rfl rfl (fun c15b => ?_) (fun c15b => ?_)
    · have c15 := c15b
      try simp only [BS] at c15
      have z2 : isDigB (s.getD 0 0) = true := c15
      refine wr 1 [(3, .o (.bool (validNum (s.take (wordLen s)))))] 23 27 [] [(27, (.bool (!(validNum (s.take (wordLen s))))))] (vA (vA (show (0 : Int) ≤ ((wordLen s : Nat) : Int) from by first | omega | (dsimp only; omega) | (rw [List.length_take]; omega)) (show ((wordLen s : Nat) : Int) ≤ (((s : List UInt8).length : Nat) : Int) from by first | omega | (dsimp only; omega) | (rw [List.length_take]; omega))) (vA (validNum_c_q ex (s.take (wordLen s)) H2 (by first | omega | (dsimp only; omega) | (rw [List.length_take]; omega)) (by first | omega | (dsimp only; omega) | (rw [List.length_take]; omega))) trivial)) (by kernel_rfl) rfl fun gg16 => ?_
      refine wk_if 1 2 (v := (!(validNum (s.take (wordLen s))))) rfl rfl rfl rfl (fun c17b => ?_) (fun c17b => ?_)
      · have c17 := c17b
        try simp only [BS] at c17
        have z3 : validNum (s.take (wordLen s)) = false := by simpa using c17
        refine wk_region ?_
        refine wro 1 0 [] 28 28 [] [(28, (.agg ⟨[(.int .i64 0), (.string ⟨⟨[]⟩⟩), (.int .i64 0)]⟩))] trivial (by kernel_rfl) rfl fun gg18 => ?_
        refine wo_rk (rs_rec (q := 0) hs2 rfl rfl rfl rfl rfl rfl rfl rfl rfl) rfl ?_
        rintro _ H19 _ ⟨hs19, _⟩
        have hs19 : HS (Base.of H []) F H19 [[(b1, .cells [(.int .i64 0), (.string ⟨⟨[]⟩⟩), (.int .i64 0)] none false)]] R := hs19
        refine wa (.int .i64 2) rfl rfl rfl ?_
        refine wo_end 1 rfl ?_
        refine wk_ret ⟨.inr rfl, _, (rC rfl (ldVN rfl rfl (HS.hc hs19 (i := 0) rfl) rfl) (rT rfl rN)), (⟨0, ⟨[]⟩, 0⟩ : Token), 2, _, (Fz.le_refl _), (HS.forget hs19), rfl, (by first | omega | (dsimp only; omega) | (rw [List.length_take]; omega)), (by first | omega | (dsimp only; omega) | (rw [List.length_take]; omega)), (by simp only [firstK, *, ↓reduceIte, Bool.false_eq_true, not_false_eq_true]), (by simp only [firstK, *, ↓reduceIte, Bool.false_eq_true, not_false_eq_true])⟩
      · have c17 := c17b
        try simp only [BS] at c17
        have z3 : validNum (s.take (wordLen s)) = true := by simpa using c17
        refine wk_region ?_
        refine wro 4 0 [] 29 32 [] [(32, (.agg ⟨[(.int .i64 2), (.string ⟨⟨s.take (wordLen s)⟩⟩), (.int .i64 0)]⟩))] (vA (vA (show (0 : Int) ≤ ((wordLen s : Nat) : Int) from by first | omega | (dsimp only; omega) | (rw [List.length_take]; omega)) (show ((wordLen s : Nat) : Int) ≤ (((s : List UInt8).length : Nat) : Int) from by first | omega | (dsimp only; omega) | (rw [List.length_take]; omega))) trivial) (by kernel_rfl) rfl fun gg20 => ?_
        refine wo_rk (rs_rec (q := 0) hs2 rfl rfl rfl rfl rfl rfl rfl rfl rfl) rfl ?_
        rintro _ H21 _ ⟨hs21, _⟩
        have hs21 : HS (Base.of H []) F H21 [[(b1, .cells [(.int .i64 2), (.string ⟨⟨s.take (wordLen s)⟩⟩), (.int .i64 0)] none false)]] R := hs21
        refine wa (.int .i64 0) rfl rfl rfl ?_
        refine wo_end 1 rfl ?_
        refine wk_ret ⟨.inr rfl, _, (rC rfl (ldVN rfl rfl (HS.hc hs21 (i := 0) rfl) rfl) (rT rfl rN)), (⟨2, ⟨s.take (wordLen s)⟩, 0⟩ : Token), 0, _, (Fz.le_refl _), (HS.forget hs21), rfl, (by first | omega | (dsimp only; omega) | (rw [List.length_take]; omega)), (by first | omega | (dsimp only; omega) | (rw [List.length_take]; omega)), (by simp only [firstK, *, ↓reduceIte, Bool.false_eq_true, not_false_eq_true]), (by simp only [firstK, *, ↓reduceIte, Bool.false_eq_true, not_false_eq_true])⟩
    · have c15 := c15b
      try simp only [BS] at c15
      have z2 : isDigB (s.getD 0 0) = false := c15
      refine wr 1 [] 33 35 [] [(33, (.bool (decide ((16 : Int) < ((wordLen s : Nat) : Int)))))] trivial (by kernel_rfl) rfl fun gg22 => ?_
      refine wk_if 1 3 (v := (decide ((16 : Int) < ((wordLen s : Nat) : Int)))) rfl rfl rfl rfl (fun c23b => ?_) (fun c23b => ?_)
      · have c23 := c23b
        try simp only [BS] at c23
        have z4 : 16 < wordLen s := by omega
        refine wk_region ?_
        refine wro 1 0 [] 36 36 [] [(36, (.agg ⟨[(.int .i64 0), (.string ⟨⟨[]⟩⟩), (.int .i64 0)]⟩))] trivial (by kernel_rfl) rfl fun gg24 => ?_
        refine wo_rk (rs_rec (q := 0) hs2 rfl rfl rfl rfl rfl rfl rfl rfl rfl) rfl ?_
        rintro _ H25 _ ⟨hs25, _⟩
        have hs25 : HS (Base.of H []) F H25 [[(b1, .cells [(.int .i64 0), (.string ⟨⟨[]⟩⟩), (.int .i64 0)] none false)]] R := hs25
        refine wa (.int .i64 6) rfl rfl rfl ?_
        refine wo_end 1 rfl ?_
        refine wk_ret ⟨.inr rfl, _, (rC rfl (ldVN rfl rfl (HS.hc hs25 (i := 0) rfl) rfl) (rT rfl rN)), (⟨0, ⟨[]⟩, 0⟩ : Token), 6, _, (Fz.le_refl _), (HS.forget hs25), rfl, (by first | omega | (dsimp only; omega) | (rw [List.length_take]; omega)), (by first | omega | (dsimp only; omega) | (rw [List.length_take]; omega)), (by simp only [firstK, *, ↓reduceIte, Bool.false_eq_true, not_false_eq_true]), (by simp only [firstK, *, ↓reduceIte, Bool.false_eq_true, not_false_eq_true])⟩
      · have c23 := c23b
        try simp only [BS] at c23
        have z4 : ¬ 16 < wordLen s := by omega
        refine wk_region ?_
        refine wro 4 0 [] 37 40 [] [(40, (.agg ⟨[(.int .i64 1), (.string ⟨⟨s.take (wordLen s)⟩⟩), (.int .i64 0)]⟩))] (vA (vA (show (0 : Int) ≤ ((wordLen s : Nat) : Int) from by first | omega | (dsimp only; omega) | (rw [List.length_take]; omega)) (show ((wordLen s : Nat) : Int) ≤ (((s : List UInt8).length : Nat) : Int) from by first | omega | (dsimp only; omega) | (rw [List.length_take]; omega))) trivial) (by kernel_rfl) rfl fun gg26 => ?_
        refine wo_rk (rs_rec (q := 0) hs2 rfl rfl rfl rfl rfl rfl rfl rfl rfl) rfl ?_
        rintro _ H27 _ ⟨hs27, _⟩
        have hs27 : HS (Base.of H []) F H27 [[(b1, .cells [(.int .i64 1), (.string ⟨⟨s.take (wordLen s)⟩⟩), (.int .i64 0)] none false)]] R := hs27
        refine wa (.int .i64 0) rfl rfl rfl ?_
        refine wo_end 1 rfl ?_
        refine wk_ret ⟨.inr rfl, _, (rC rfl (ldVN rfl rfl (HS.hc hs27 (i := 0) rfl) rfl) (rT rfl rN)), (⟨1, ⟨s.take (wordLen s)⟩, 0⟩ : Token), 0, _, (Fz.le_refl _), (HS.forget hs27), rfl, (by first | omega | (dsimp only; omega) | (rw [List.length_take]; omega)), (by first | omega | (dsimp only; omega) | (rw [List.length_take]; omega)), (by simp only [firstK, *, ↓reduceIte, Bool.false_eq_true, not_false_eq_true]), (by simp only [firstK, *, ↓reduceIte, Bool.false_eq_true, not_false_eq_true])⟩

theorem take_len {s : List UInt8} {n : Nat} (h : n ≤ s.length) : (s.take n).length = n := by rw [List.length_take]; omega
theorem firstK_len {s : List UInt8} (h0 : 0 < s.length) : (firstK s).2.1.length ≤ s.length ∧ ((firstK s).2.2 = 0 → 0 < (firstK s).2.1.length) ∧ 0 ≤ (firstK s).2.2 ∧ (firstK s).2.2 < 10 := by
  have hw := wordLen_le s
  have hy := symLen_le h0
  have l1 := take_len hw
  have l2 := take_len hy
  rw [firstK]
  split
  · split
    · simp
    · dsimp only; omega
  · split
    · split
      · dsimp only; omega
      · simp
    · split
      · simp
      · dsimp only; omega
abbrev Sc := List Token × Int × Int
def consT (t : Token) (r : Sc) : Sc := if r.2.1 = 0 then (t :: r.1, r.2) else r
def preT (l : List Token) (r : Sc) : Sc := if r.2.1 = 0 then (l ++ r.1, r.2) else r
def scanN : Nat → List UInt8 → Nat → Sc
  | 0, _, _ => ([], 0, 0)
  | f + 1, s, at_ =>
    if at_ < s.length then
      if (firstK (s.drop at_)).2.2 = 0 then
        consT ⟨(firstK (s.drop at_)).1, ⟨(firstK (s.drop at_)).2.1⟩, at_⟩ (scanN f s (at_ + (firstK (s.drop at_)).2.1.length + spl false (s.drop (at_ + (firstK (s.drop at_)).2.1.length))))
      else ([], (firstK (s.drop at_)).2.2, at_)
    else ([], 0, 0)
def scanS (s : List UInt8) : Sc := if 20000 < s.length then ([], 6, 20000) else scanN (s.length + 1) s (spl false s)
theorem pre_cons (l : List Token) (t : Token) (r : Sc) : preT l (consT t r) = preT (l ++ [t]) r := by
  unfold preT consT
  by_cases h : r.2.1 = 0
  · simp [h]
  · simp [h]
theorem pre_nil (r : Sc) : preT [] r = r := by unfold preT; split <;> rfl
theorem scan_step {s : List UInt8} {at_ f : Nat} {l : List Token} {R : Sc} (h : at_ < s.length) (hf : s.length - at_ < f) (e : (firstK (s.drop at_)).2.2 = 0) (h2 : preT l (scanN f s at_) = R) :
    preT (l ++ [⟨(firstK (s.drop at_)).1, ⟨(firstK (s.drop at_)).2.1⟩, at_⟩]) (scanN (f - 1) s (at_ + (firstK (s.drop at_)).2.1.length + spl false (s.drop (at_ + (firstK (s.drop at_)).2.1.length)))) = R := by
  obtain ⟨g, rfl⟩ : ∃ g, f = g + 1 := ⟨f - 1, by omega⟩
  rw [scanN, if_pos h, if_pos e, pre_cons] at h2
  exact h2
theorem scan_err {s : List UInt8} {at_ f : Nat} {l : List Token} {R : Sc} (h : at_ < s.length) (hf : s.length - at_ < f) (e : (firstK (s.drop at_)).2.2 ≠ 0) (h2 : preT l (scanN f s at_) = R) : R = ([], (firstK (s.drop at_)).2.2, (at_ : Int)) := by
  obtain ⟨g, rfl⟩ : ∃ g, f = g + 1 := ⟨f - 1, by omega⟩
  rw [scanN, if_pos h, if_neg e, preT, if_neg (by exact e)] at h2
  exact h2.symm
theorem scan_end {s : List UInt8} {at_ f : Nat} {l : List Token} {R : Sc} (h : ¬ at_ < s.length) (h2 : preT l (scanN f s at_) = R) : R = (l, 0, 0) := by
  have : scanN f s at_ = ([], 0, 0) := by
    cases f with
    | zero => rfl
    | succ f => rw [scanN, if_neg h]
  rw [this, preT, if_pos rfl, List.append_nil] at h2
  exact h2.symm

theorem scan_c (ex : FuncId) (s : List UInt8) {F : Fz} {H : Heap} {R : List Fp} (hs : HS (.of H []) F H [] R) (hl : s.length < 4611686018427387904) : C Try.prog 0 (KX ex) 22 [(.string ⟨⟨s⟩⟩)] H fun v H' => ∃ (al : Option Addr) (kl : Nat) (l : List Token) (p : Fp) (e : ErrT) (F' : Fz), Fz.le F F' ∧ HS (.of H []) F' H' [p] R ∧ v = .tuple ⟨[.slice al l.length kl, .agg ⟨[.int .i64 e.why, .int .i64 e.at_]⟩]⟩ ∧ OS F' (.slice al l.length kl) l p ∧ in64 e.why ∧ in64 e.at_ ∧ l = (scanS s).1 ∧ e = ErrT.mk (scanS s).2.1 (scanS s).2.2 := by
  refine c_enter Try.func22 rfl rfl ?_
  refine wk_foc 1 rfl ?_
  refine wk_region ?_
  refine wa (.slice none 0 0) rfl rfl rfl ?_
  refine wo_rs (rs_new hs rfl) rfl rfl ?_
  rintro _ H2 _ ⟨b1, rfl, hs2, _⟩
  have hs2 : HS (Base.of H []) F H2 [[(b1, .cells [(.int .i64 0), (.int .i64 0)] none false)]] R := hs2
  refine wo_end 3 rfl ?_
  refine wr 1 [] 8 10 [] [(10, (.bool (decide ((20000 : Int) < (s.length : Int)))))] trivial (by kernel_rfl) rfl fun gg3 => ?_
  refine wk_if 1 2 (v := (decide ((20000 : Int) < (s.length : Int)))) rfl rfl rfl rfl (fun c4b => ?_) (fun c4b => ?_)
  · have c4 := c4b
    try simp only [BS] at c4
    refine wk_region ?_
    refine wro 2 0 [] 1 0 [2, 11] [(2, (.slice none 0 0)), (11, (.agg ⟨[(.int .i64 6), (.int .i64 20000)]⟩))] trivial (by kernel_rfl) rfl fun gg5 => ?_
    refine wo_rk (rs_rec (q := 0) hs2 rfl rfl rfl rfl rfl rfl rfl rfl rfl) rfl ?_
    rintro _ H6 _ ⟨hs6, _⟩
    have hs6 : HS (Base.of H []) F H6 [[(b1, .cells [(.int .i64 6), (.int .i64 20000)] none false)]] R := hs6
    refine wo_end 1 rfl ?_
    refine wk_ret ⟨.inr rfl, _, (rT rfl (rC rfl (ldVN rfl rfl (HS.hc hs6 (i := 0) rfl) rfl) rN)), none, 0, ([] : List Token), [], (⟨6, 20000⟩ : ErrT), _, (Fz.le_refl _), (HS.cons (HS.forget hs6)), rfl, (OS.nil : OS _ _ _ []), (by first | omega | (dsimp only; omega) | (rw [List.length_drop]; omega)), (by first | omega | (dsimp only; omega) | (rw [List.length_drop]; omega)), (by rw [scanS, if_pos (by omega)]), (by rw [scanS, if_pos (by omega)])⟩
  · have c4 := c4b
    try simp only [BS] at c4
    refine wr 3 [] 1 0 [4] [(4, (.slice none 0 0))] trivial (by kernel_rfl) rfl fun gg7 => ?_
    refine wr 2 [(1, .o (.int .i64 ((spl false s : Nat) : Int)))] 12 13 [5] [(5, (.int .i64 ((spl false s : Nat) : Int)))] (vA (spaceLen_c_q ex s H2 (by first | omega | (dsimp only; omega) | (rw [List.length_drop]; omega))) trivial) (by kernel_rfl) rfl fun gg8 => ?_
    have hs10 := HS.snoc hs2
    have hs10 : HS (Base.of H []) F H2 [[(b1, .cells [(.int .i64 0), (.int .i64 0)] none false)], []] R := hs10
    refine wk_loop_inv (fun (mm : Nat) f H' => ∃ (at_ : Nat) (l : List Token) (fu : Nat) (la9_4 : Option Addr) (lk9_4 : Nat) (lp9_4 : Fp) (F' : Fz), Fz.le F F' ∧ HS (Base.of H []) F' H' [[(b1, .cells [(.int .i64 0), (.int .i64 0)] none false)], lp9_4] R ∧ OS F' (.slice la9_4 l.length lk9_4) l lp9_4 ∧ agrees f [(0, (.string ⟨⟨s⟩⟩)), (3, (.pointer (some ⟨b1, 0, none⟩))), (4, (.slice la9_4 l.length lk9_4)), (5, (.int .i64 (at_ : Int)))] ∧ mm = s.length - at_ ∧ (at_ ≤ s.length) ∧ (s.length - at_ < fu) ∧ (preT l (scanN fu s at_) = scanS s) ∧ (l.length ≤ at_)) _ ⟨spl false s, ([] : List Token), s.length + 1, none, 0, [], _, (Fz.le_refl _), hs10, (OS.nil : OS F (.slice none 0 0) ([] : List Token) []), (agC rfl (agC rfl (agC rfl (agC rfl agN)))), rfl, (by exact spl_le s false), (by omega), (by rw [scanS, if_neg (by omega)]; (first | done | exact pre_nil _)), (by exact Nat.zero_le _)⟩ ?_
    rintro mm9 f9 H9 ⟨at_, l, fu, la9_4, lk9_4, lp9_4, F9, hF9, hs9, lh9_4, hf9, rfl, h1, hf, h2, h3⟩ ih9
    refine wk_canon _ hf9 (fun gg9 => ?_)
    clear hf9
    refine wk_foc 2 rfl ?_
    refine wr 1 [] 14 17 [] [(17, (.bool (decide ((at_ : Int) < (s.length : Int)))))] trivial (by kernel_rfl) rfl fun gg11 => ?_
    refine wk_if 4 5 (v := (decide ((at_ : Int) < (s.length : Int)))) rfl rfl rfl rfl (fun c12b => ?_) (fun c12b => ?_)
    · have c12 := c12b
      try simp only [BS] at c12
      have hd : (s.drop at_).length = s.length - at_ := List.length_drop ..
      have q := firstK_len (s := s.drop at_) (by omega)
      have sp := spl_le (s.drop (at_ + (firstK (s.drop at_)).2.1.length)) false
      rw [List.length_drop] at sp
      refine wk_region ?_
      refine wro 3 0 [] 25 27 [] [(27, (.string ⟨⟨s.drop at_⟩⟩))] (vA (vA (show (0 : Int) ≤ (at_ : Int) from by first | omega | (dsimp only; omega) | (rw [List.length_drop]; omega)) (show (at_ : Int) ≤ (((s : List UInt8).length : Nat) : Int) from by first | omega | (dsimp only; omega) | (rw [List.length_drop]; omega))) trivial) (by kernel_rfl) rfl fun gg13 => ?_
      refine wo_call (ap_call rfl rfl rfl) rfl rfl (first_c ex (s.drop at_) (HS.call hs9) (by first | omega | (dsimp only; omega) | (rw [List.length_drop]; omega)) (by first | omega | (dsimp only; omega) | (rw [List.length_drop]; omega))) ?_
      rintro _ H14 ⟨t14, e14, F14, hF14, hs14, rfl, hgt14_0, hgt14_2, rfl, rfl⟩
      replace hs14 := HS.back hs9 rfl hs14
      have hs14 : HS (Base.of H []) F14 H14 [[(b1, .cells [(.int .i64 0), (.int .i64 0)] none false)], lp9_4] R := hs14
      replace lh9_4 := lh9_4.mono hF14
      refine wro 3 4 [] 1 0 [24, 29, 30] [(29, (.agg ⟨[(.int .i64 ((Token.mk (firstK (s.drop at_)).1 (Str.mk (firstK (s.drop at_)).2.1) 0).kind)), (.string ⟨⟨(Token.mk (firstK (s.drop at_)).1 (Str.mk (firstK (s.drop at_)).2.1) 0).text.b⟩⟩), (.int .i64 ((Token.mk (firstK (s.drop at_)).1 (Str.mk (firstK (s.drop at_)).2.1) 0).at_))]⟩)), (30, (.int .i64 ((firstK (s.drop at_)).2.2)))] trivial (by kernel_rfl) rfl fun gg15 => ?_
      refine wo_rs (rs_new hs14 rfl) rfl rfl ?_
      rintro _ H17 _ ⟨b16, rfl, hs17, _⟩
      have hs17 : HS (Base.of H []) F14 H17 [[(b1, .cells [(.int .i64 0), (.int .i64 0)] none false)], lp9_4, [(b16, .cells [(.int .i64 0), (.string ⟨⟨[]⟩⟩), (.int .i64 0)] none false)]] R := hs17
      refine wo_rk (rs_rec (q := 2) hs17 rfl rfl rfl rfl rfl rfl rfl rfl rfl) rfl ?_
      rintro _ H18 _ ⟨hs18, _⟩
      have hs18 : HS (Base.of H []) F14 H18 [[(b1, .cells [(.int .i64 0), (.int .i64 0)] none false)], lp9_4, [(b16, .cells [(.int .i64 ((Token.mk (firstK (s.drop at_)).1 (Str.mk (firstK (s.drop at_)).2.1) 0).kind)), (.string ⟨⟨(Token.mk (firstK (s.drop at_)).1 (Str.mk (firstK (s.drop at_)).2.1) 0).text.b⟩⟩), (.int .i64 ((Token.mk (firstK (s.drop at_)).1 (Str.mk (firstK (s.drop at_)).2.1) 0).at_))] none false)]] R := hs18
      refine wa (.int .i64 ((firstK (s.drop at_)).2.2)) rfl rfl rfl ?_
      refine wo_end 3 rfl ?_
      refine wr 1 [] 31 32 [] [(32, (.bool ((firstK (s.drop at_)).2.2 != 0)))] trivial (by kernel_rfl) rfl fun gg19 => ?_
      refine wk_if 1 2 (v := ((firstK (s.drop at_)).2.2 != 0)) rfl rfl rfl rfl (fun c20b => ?_) (fun c20b => ?_)
      · have c20 := c20b
        try simp only [BS] at c20
        refine wk_region ?_
        refine wro 4 0 [] 1 0 [2, 33, 34, 35] [(2, (.slice none 0 0)), (35, (.agg ⟨[(.int .i64 ((firstK (s.drop at_)).2.2)), (.int .i64 (at_ : Int))]⟩))] trivial (by kernel_rfl) rfl fun gg21 => ?_
        refine wo_rk (rs_rec (q := 0) hs18 rfl rfl rfl rfl rfl rfl rfl rfl rfl) rfl ?_
        rintro _ H22 _ ⟨hs22, _⟩
        have hs22 : HS (Base.of H []) F14 H22 [[(b1, .cells [(.int .i64 ((firstK (s.drop at_)).2.2)), (.int .i64 (at_ : Int))] none false)], lp9_4, [(b16, .cells [(.int .i64 ((Token.mk (firstK (s.drop at_)).1 (Str.mk (firstK (s.drop at_)).2.1) 0).kind)), (.string ⟨⟨(Token.mk (firstK (s.drop at_)).1 (Str.mk (firstK (s.drop at_)).2.1) 0).text.b⟩⟩), (.int .i64 ((Token.mk (firstK (s.drop at_)).1 (Str.mk (firstK (s.drop at_)).2.1) 0).at_))] none false)]] R := hs22
        refine wo_end 1 rfl ?_
        refine wk_ret ⟨.inr rfl, _, (rT rfl (rC rfl (ldVN rfl rfl (HS.hc hs22 (i := 0) rfl) rfl) rN)), none, 0, ([] : List Token), [], (⟨(firstK (s.drop at_)).2.2, (at_ : Int)⟩ : ErrT), _, (Fz.le_trans (hF9) hF14), (HS.cons (HS.forget hs22)), rfl, (OS.nil : OS _ _ _ []), (by first | omega | (dsimp only; omega) | (rw [List.length_drop]; omega)), (by first | omega | (dsimp only; omega) | (rw [List.length_drop]; omega)), (by rw [scan_err (by omega) hf (by omega) h2]), (by rw [scan_err (by omega) hf (by omega) h2])⟩
      · have c20 := c20b
        try simp only [BS] at c20
        refine wk_region ?_
        refine wro 2 0 [] 36 37 [] [(36, (.int .i64 (at_ : Int))), (37, (.pointer (some ⟨b16, 2, none⟩)))] trivial (by kernel_rfl) rfl fun gg23 => ?_
        refine wo_rk (rs_rec (q := 2) hs18 rfl rfl rfl rfl rfl rfl rfl rfl rfl) rfl ?_
        rintro _ H24 _ ⟨hs24, _⟩
        have hs24 : HS (Base.of H []) F14 H24 [[(b1, .cells [(.int .i64 0), (.int .i64 0)] none false)], lp9_4, [(b16, .cells [(.int .i64 ((Token.mk (firstK (s.drop at_)).1 (Str.mk (firstK (s.drop at_)).2.1) 0).kind)), (.string ⟨⟨(Token.mk (firstK (s.drop at_)).1 (Str.mk (firstK (s.drop at_)).2.1) 0).text.b⟩⟩), (.int .i64 (at_ : Int))] none false)]] R := hs24
        refine wo_end 2 rfl ?_
        refine wk_region ?_
        refine wro 2 0 [(1, .o (.agg ⟨[(.int .i64 ((Token.mk (firstK (s.drop at_)).1 (Str.mk (firstK (s.drop at_)).2.1) 0).kind)), (.string ⟨⟨(Token.mk (firstK (s.drop at_)).1 (Str.mk (firstK (s.drop at_)).2.1) 0).text.b⟩⟩), (.int .i64 (at_ : Int))]⟩))] 38 39 [] [(38, (.slice la9_4 l.length lk9_4)), (39, (.agg ⟨[(.int .i64 ((Token.mk (firstK (s.drop at_)).1 (Str.mk (firstK (s.drop at_)).2.1) 0).kind)), (.string ⟨⟨(Token.mk (firstK (s.drop at_)).1 (Str.mk (firstK (s.drop at_)).2.1) 0).text.b⟩⟩), (.int .i64 (at_ : Int))]⟩))] (vA (qn 43 0 3 (HS.hc hs24 (i := 2) rfl) rfl rfl rfl rfl) trivial) (by kernel_rfl) rfl fun gg25 => ?_
        refine wo_rs (rs_lit (α := Token) (ps := [(0, (.agg ⟨[(.int .i64 ((Token.mk (firstK (s.drop at_)).1 (Str.mk (firstK (s.drop at_)).2.1) 0).kind)), (.string ⟨⟨(Token.mk (firstK (s.drop at_)).1 (Str.mk (firstK (s.drop at_)).2.1) 0).text.b⟩⟩), (.int .i64 (at_ : Int))]⟩))]) (cells := [(.int .i64 ((Token.mk (firstK (s.drop at_)).1 (Str.mk (firstK (s.drop at_)).2.1) 0).kind)), (.string ⟨⟨(Token.mk (firstK (s.drop at_)).1 (Str.mk (firstK (s.drop at_)).2.1) 0).text.b⟩⟩), (.int .i64 (at_ : Int))]) ([(⟨(Token.mk (firstK (s.drop at_)).1 (Str.mk (firstK (s.drop at_)).2.1) 0).kind, ⟨(Token.mk (firstK (s.drop at_)).1 (Str.mk (firstK (s.drop at_)).2.1) 0).text.b⟩, (at_ : Int)⟩ : Token)] : List Token) hs24 rfl rfl rfl (by kernel_rfl) ⟨[(.int .i64 ((Token.mk (firstK (s.drop at_)).1 (Str.mk (firstK (s.drop at_)).2.1) 0).kind)), (.string ⟨⟨(Token.mk (firstK (s.drop at_)).1 (Str.mk (firstK (s.drop at_)).2.1) 0).text.b⟩⟩), (.int .i64 (at_ : Int))], [], rfl, ⟨rfl, by first | omega | (dsimp only; omega) | (rw [List.length_drop]; omega), by first | omega | (dsimp only; omega) | (rw [List.length_drop]; omega)⟩, rfl⟩ rfl) rfl rfl ?_
        rintro _ H27 p26 ⟨a26, k26, rfl, ho26, hs27, _⟩
        have hs27 : HS (Base.of H []) F14 H27 [[(b1, .cells [(.int .i64 0), (.int .i64 0)] none false)], lp9_4, [(b16, .cells [(.int .i64 ((Token.mk (firstK (s.drop at_)).1 (Str.mk (firstK (s.drop at_)).2.1) 0).kind)), (.string ⟨⟨(Token.mk (firstK (s.drop at_)).1 (Str.mk (firstK (s.drop at_)).2.1) 0).text.b⟩⟩), (.int .i64 (at_ : Int))] none false)], p26] R := hs27
        refine wo_rs (rs_app (α := Token) (q := 1) lh9_4 hs27 rfl rfl rfl (OS.sv ho26 hs27 (i := 3) rfl) rfl rfl rfl rfl rfl rfl rfl (by simp only [List.length_append, List.length_cons, List.length_nil]; omega)) rfl rfl ?_
        rintro _ H29 p28 ⟨a28, k28, rfl, ho28, hs29, _⟩
        have hs29 : HS (Base.of H []) F14 H29 [[(b1, .cells [(.int .i64 0), (.int .i64 0)] none false)], p28, [(b16, .cells [(.int .i64 ((Token.mk (firstK (s.drop at_)).1 (Str.mk (firstK (s.drop at_)).2.1) 0).kind)), (.string ⟨⟨(Token.mk (firstK (s.drop at_)).1 (Str.mk (firstK (s.drop at_)).2.1) 0).text.b⟩⟩), (.int .i64 (at_ : Int))] none false)], p26] R := hs29
        refine wa (.slice a28 (l ++ ([(⟨(Token.mk (firstK (s.drop at_)).1 (Str.mk (firstK (s.drop at_)).2.1) 0).kind, ⟨(Token.mk (firstK (s.drop at_)).1 (Str.mk (firstK (s.drop at_)).2.1) 0).text.b⟩, (at_ : Int)⟩ : Token)] : List Token)).length k28) rfl rfl rfl ?_
        refine wo_end 1 rfl ?_
        refine wr 2 [(2, .o (.string ⟨⟨(Token.mk (firstK (s.drop at_)).1 (Str.mk (firstK (s.drop at_)).2.1) 0).text.b⟩⟩))] 42 46 [5] [(5, (.int .i64 ((at_ : Int) + (((Token.mk (firstK (s.drop at_)).1 (Str.mk (firstK (s.drop at_)).2.1) 0).text.b).length : Int))))] (vA (ql 9 1 (HS.hc hs29 (i := 2) rfl) rfl rfl) (vA (vi (n := (at_ : Int) + (((Token.mk (firstK (s.drop at_)).1 (Str.mk (firstK (s.drop at_)).2.1) 0).text.b).length : Int)) (by first | omega | (dsimp only; omega) | (rw [List.length_drop]; omega))) trivial)) (by kernel_rfl) rfl fun gg30 => ?_
        refine wr 1 [(4, .o (.int .i64 ((spl false (s.drop (at_ + (((Token.mk (firstK (s.drop at_)).1 (Str.mk (firstK (s.drop at_)).2.1) 0).text.b).length))) : Nat) : Int)))] 18 23 [5] [(5, (.int .i64 (((at_ : Int) + (((Token.mk (firstK (s.drop at_)).1 (Str.mk (firstK (s.drop at_)).2.1) 0).text.b).length : Int)) + ((spl false (s.drop (at_ + (((Token.mk (firstK (s.drop at_)).1 (Str.mk (firstK (s.drop at_)).2.1) 0).text.b).length))) : Nat) : Int))))] (vA (vA (show (0 : Int) ≤ (at_ : Int) + (((Token.mk (firstK (s.drop at_)).1 (Str.mk (firstK (s.drop at_)).2.1) 0).text.b).length : Int) from by first | omega | (dsimp only; omega) | (rw [List.length_drop]; omega)) (show (at_ : Int) + (((Token.mk (firstK (s.drop at_)).1 (Str.mk (firstK (s.drop at_)).2.1) 0).text.b).length : Int) ≤ (((s : List UInt8).length : Nat) : Int) from by first | omega | (dsimp only; omega) | (rw [List.length_drop]; omega))) (vA (spaceLen_c_q ex (s.drop (at_ + (((Token.mk (firstK (s.drop at_)).1 (Str.mk (firstK (s.drop at_)).2.1) 0).text.b).length))) H29 (by first | omega | (dsimp only; omega) | (rw [List.length_drop]; omega))) (vA (vi (n := ((at_ : Int) + (((Token.mk (firstK (s.drop at_)).1 (Str.mk (firstK (s.drop at_)).2.1) 0).text.b).length : Int)) + ((spl false (s.drop (at_ + (((Token.mk (firstK (s.drop at_)).1 (Str.mk (firstK (s.drop at_)).2.1) 0).text.b).length))) : Nat) : Int)) (by first | omega | (dsimp only; omega) | (rw [List.length_drop]; omega))) trivial))) (by kernel_rfl) rfl fun gg31 => ?_
        refine ih9 _ _ _ ?_ ⟨(at_ + (((Token.mk (firstK (s.drop at_)).1 (Str.mk (firstK (s.drop at_)).2.1) 0).text.b).length)) + (spl false (s.drop (at_ + (((Token.mk (firstK (s.drop at_)).1 (Str.mk (firstK (s.drop at_)).2.1) 0).text.b).length)))), l ++ ([(⟨(Token.mk (firstK (s.drop at_)).1 (Str.mk (firstK (s.drop at_)).2.1) 0).kind, ⟨(Token.mk (firstK (s.drop at_)).1 (Str.mk (firstK (s.drop at_)).2.1) 0).text.b⟩, (at_ : Int)⟩ : Token)] : List Token), fu - 1, a28, k28, p28, _, (Fz.le_trans hF9 (hF14)), (HS.sub hs29 (List.sublist_append_left _ _)), ho28, (agC rfl (agC rfl (agC rfl (agC rfl agN)))), rfl, (by dsimp only; omega), (by dsimp only; omega), (by exact scan_step (by omega) hf (by omega) h2), (by rw [List.length_append, List.length_singleton]; dsimp only; omega)⟩
        dsimp only; omega
    · have c12 := c12b
      try simp only [BS] at c12
      refine wk_region ?_
      refine wro 3 0 [] 1 0 [2, 47, 48] [(2, (.slice la9_4 l.length lk9_4)), (48, (.agg ⟨[(.int .i64 0), (.int .i64 0)]⟩))] trivial (by kernel_rfl) rfl fun gg32 => ?_
      refine wo_rk (rs_rec (q := 0) hs9 rfl rfl rfl rfl rfl rfl rfl rfl rfl) rfl ?_
      rintro _ H33 _ ⟨hs33, _⟩
      have hs33 : HS (Base.of H []) F9 H33 [[(b1, .cells [(.int .i64 0), (.int .i64 0)] none false)], lp9_4] R := hs33
      refine wo_end 1 rfl ?_
      refine wk_ret ⟨.inr rfl, _, (rT rfl (rC rfl (ldVN rfl rfl (HS.hc hs33 (i := 0) rfl) rfl) rN)), la9_4, lk9_4, l, lp9_4, (⟨0, 0⟩ : ErrT), _, (hF9), (HS.only hs33 (i := 1) rfl), rfl, lh9_4, (by first | omega | (dsimp only; omega) | (rw [List.length_drop]; omega)), (by first | omega | (dsimp only; omega) | (rw [List.length_drop]; omega)), (by rw [scan_end (by omega) h2]), (by rw [scan_end (by omega) h2])⟩

def pickV (n m : Int) : Int := bif decide (Int.tmod n m < 0) then Int.tmod n m + m else Int.tmod n m

theorem pick_c (ex : FuncId) (n : Int) (m : Int) (H : Heap) (hm : 0 < m ∧ m < 9223372036854775808) : C Try.prog 0 (KX ex) 19 [(.int .i64 n), (.int .i64 m)] H fun v H' => ∃ (r : Int), H' = H ∧ v = .int .i64 r ∧ r = pickV n m ∧ (0 ≤ r ∧ r < m) := by
  have h1 : -m < n.tmod m := Int.lt_tmod_of_pos n hm.1
  have h2 : n.tmod m < m := Int.tmod_lt_of_pos n hm.1
  refine c_enter Try.func19 rfl rfl ?_
  refine wk_foc 1 rfl ?_
  refine wr 2 [] 4 4 [] [(4, (.int .i64 0))] trivial (by kernel_rfl) rfl fun gg1 => ?_
  refine wr 3 [] 5 7 [0] [(0, (.int .i64 (Int.tmod n m)))] (vA (show m ≠ 0 from by omega) trivial) (by kernel_rfl) rfl fun gg2 => ?_
  refine wr 1 [] 8 9 [] [(9, (.bool (decide (Int.tmod n m < 0))))] trivial (by kernel_rfl) rfl fun gg3 => ?_
  refine wk_if 0 2 (v := (decide (Int.tmod n m < 0))) rfl rfl rfl rfl (fun c4b => ?_) (fun c4b => ?_)
  · have c4 := c4b
    try simp only [BS] at c4
    refine wr 2 [] 10 12 [0] [(0, (.int .i64 ((Int.tmod n m) + m)))] (vA (vi (n := (Int.tmod n m) + m) (by omega)) trivial) (by kernel_rfl) rfl fun gg5 => ?_
    refine wr 1 [] 1 0 [4, 13] [(4, (.int .i64 ((Int.tmod n m) + m)))] trivial (by kernel_rfl) rfl fun gg6 => ?_
    refine wk_ret ⟨.inr rfl, _, rfl, (Int.tmod n m) + m, rfl, rfl, (by simp only [pickV, c4b, cond_true, cond_false]), (by omega)⟩
  · have c4 := c4b
    try simp only [BS] at c4
    refine wr 1 [] 1 0 [4, 13] [(4, (.int .i64 (Int.tmod n m)))] trivial (by kernel_rfl) rfl fun gg7 => ?_
    refine wk_ret ⟨.inr rfl, _, rfl, Int.tmod n m, rfl, rfl, (by simp only [pickV, c4b, cond_true, cond_false]), (by omega)⟩

theorem pick_c_q (ex : FuncId) (n : Int) (m : Int) (H : Heap) (hm : 0 < m ∧ m < 9223372036854775808) : C Try.prog 0 (KX ex) 19 [(.int .i64 n), (.int .i64 m)] H fun v H' => v = (.int .i64 (pickV n m)) ∧ H' = H :=
  cq (pick_c ex n m H hm) (by rintro _ _ ⟨_, rfl, rfl, rfl, _⟩; exact ⟨rfl, rfl⟩)
end Go.Proofs.Ytcakpkdeojhacaa.l1
