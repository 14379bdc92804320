/-
 The lexer of the program, function by function, each by a symbolic run. No condition but that a text is not longer than a machine holds.
-/
import Derived.Test.YtgjpflldlegmjaaZPRD
import Derived.Test.YtgjpflldlegmjaaChecked
noncomputable section
namespace Go.Proofs.Ytgjpflldlegmjaa.l1
open Go.R
set_option maxRecDepth 10000
set_option linter.unusedVariables false
structure Token where
 kind : Int
 text : Str
 at_ : Int
 deriving Inhabited
instance : Rp Token where
 sz := 3
 rep F cs x := cs = [.int .i64 x.kind, .string ⟨⟨x.text.b⟩⟩, .int .i64 x.at_] ∧ in64 x.kind ∧ in64 x.at_
 len := by rintro F cs x ⟨rfl, _⟩; rfl
 one := by rintro F cs x ⟨rfl, _⟩; rfl
 mono := by intro F F' cs x _ h; exact h
structure ErrT where
 why : Int
 at_ : Int
 deriving Inhabited
instance : Rp ErrT where
 sz := 2
 rep F cs x := cs = [.int .i64 x.why, .int .i64 x.at_] ∧ in64 x.why ∧ in64 x.at_
 len := by rintro F cs x ⟨rfl, _⟩; rfl
 one := by rintro F cs x ⟨rfl, _⟩; rfl
 mono := by intro F F' cs x _ h; exact h
def isLetB (c : UInt8) : Bool := decide (97 ≤ c.toNat) && decide (c.toNat ≤ 122) || decide (65 ≤ c.toNat) && decide (c.toNat ≤ 90) || c.toNat == 95
def isDigB (c : UInt8) : Bool := decide (48 ≤ c.toNat) && decide (c.toNat ≤ 57)
def isWordB (c : UInt8) : Bool := isLetB c || isDigB c
def wordLen (s : List UInt8) : Nat := (s.takeWhile isWordB).length
theorem takeWhile_at {p : UInt8 → Bool} : ∀ {s : List UInt8} {n : Nat}, n ≤ s.length → (s.take n).all p = true → (n < s.length → p (s.getD n 0) = false) → n = (s.takeWhile p).length
 | [], n, h, _, _ => by simp at h; simp [h]
 | c :: s, 0, _, _, A => by
  have := A (by simp)
  simp only [List.getD_cons_zero] at this
  rw [List.takeWhile_cons, this]; rfl
 | c :: s, n + 1, h, z, A => by
  simp only [List.take_succ_cons, List.all_cons, Bool.and_eq_true] at z
  rw [List.takeWhile_cons, z.1]
  have := takeWhile_at (p := p) (s := s) (n := n) (by simpa using h) z.2 (fun hn => by have := A (by simpa using hn); simpa using this)
  simp [← this]
theorem wordLen_le (s : List UInt8) : wordLen s ≤ s.length := (List.takeWhile_prefix _).length_le
def blankB (c : UInt8) : Bool := c == 32 || c == 9 || c == 10 || c == 13
def isDigAll (s : List UInt8) : Bool := s.all isDigB
def most19 : List UInt8 := [57, 50, 50, 51, 51, 55, 50, 48, 51, 54, 56, 53, 52, 55, 55, 53, 56, 48, 56]
def validNum (s : List UInt8) : Bool := s.all isDigB && ((s.getD 0 0 != 48 || s.length == 1) && (decide (s.length < 19) || s.length == 19 && (Op.bytesLess s most19 || s == most19)))
theorem vn1 {s : List UInt8} {i : Nat} (h : i < s.length) (c : isDigB (s.getD i 0) = false) : false = validNum s := by
 have : s.all isDigB = false := by
  rw [List.all_eq_false]
  refine ⟨s.getD i 0, ?_, by simpa using c⟩
  rw [List.getD_eq_getElem?_getD, List.getElem?_eq_getElem h]
  exact List.getElem_mem h
 simp [validNum, this]
theorem all_of_take {p : UInt8 → Bool} {s : List UInt8} {i : Nat} (h : s.length ≤ i) (z : (s.take i).all p = true) : s.all p = true := by rwa [List.take_of_length_le h] at z
theorem nat_beq48 (c : UInt8) : (((c.toNat : Int) != 48)) = (c != 48) := by
 by_cases h : c = 48
 ·
  subst h; rfl
 ·
  have : c.toNat ≠ 48 := fun e => h (UInt8.toNat_inj.mp (by rw [e]; rfl))
  have z : ((c.toNat : Int) != 48) = true := by simp; omega
  rw [z, eq_comm]; simpa using h
theorem int_beq (a : Nat) (b : Nat) : ((a : Int) == (b : Int)) = (a == b) := by
 rw [Bool.eq_iff_iff]; simp; omega
theorem vn2 {s : List UInt8} (h : s.all isDigB = true) : (((((s.getD 0 0).toNat : Int) != 48) || ((s.length : Int) == 1)) && ((decide ((s.length : Int) < 19)) || (((s.length : Int) == 19) && (Op.bytesLess s most19 || s == most19)))) = validNum s := by
 rw [validNum, h, nat_beq48, show ((s.length : Int) == 1) = (s.length == 1) from int_beq _ 1, show ((s.length : Int) == 19) = (s.length == 19) from int_beq _ 19, Bool.true_and]
 rw [show decide ((s.length : Int) < 19) = decide (s.length < 19) from decide_eq_decide.mpr (by omega)]
def singles : List UInt8 := [43, 45, 42, 47, 37, 38, 124, 94, 126, 33, 60, 62, 61, 63, 58, 59, 44, 40, 41, 123, 125, 91, 93]
def symLen (s : List UInt8) : Nat :=
 if s.take 3 = [62, 62, 62] then 3
 else if s.take 2 = [60, 60] ∨ s.take 2 = [62, 62] ∨ s.take 2 = [60, 61] ∨ s.take 2 = [62, 61] ∨ s.take 2 = [61, 61] ∨ s.take 2 = [33, 61] then 2
 else if s.getD 0 0 ∈ singles then 1 else 0
theorem tk3 {s : List UInt8} {a b c : UInt8} (h : (3 : Int) ≤ s.length → s.take 3 ≠ [a, b, c]) : ¬ s.take 3 = [a, b, c] := by
 intro e
 refine h ?_ e
 have := congrArg List.length e
 rw [List.length_take] at this
 simp only [List.length_cons, List.length_nil] at this
 omega
theorem tk2 {s : List UInt8} {a b : UInt8} (h : (2 : Int) ≤ s.length → s.take 2 ≠ [a, b]) : ¬ s.take 2 = [a, b] := by
 intro e
 refine h ?_ e
 have := congrArg List.length e
 rw [List.length_take] at this
 simp only [List.length_cons, List.length_nil] at this
 omega
theorem sing_mem {c : UInt8} {i : Nat} (h : i < 23) (e : ((c.toNat : Int)) = ((singles.getD i 0).toNat : Int)) : c ∈ singles := by
 have : c = singles.getD i 0 := UInt8.toNat_inj.mp (by exact_mod_cast e)
 rw [this, List.getD_eq_getElem?_getD, List.getElem?_eq_getElem (show i < singles.length from h)]
 exact List.getElem_mem _
theorem sing_ne {c : UInt8} {i j : Nat} (e : ((c.toNat : Int)) ≠ ((singles.getD i 0).toNat : Int)) (z : ∀ j, j < i → c ≠ singles.getD j 0) (h : j < i + 1) : c ≠ singles.getD j 0 := by
 rcases Nat.lt_succ_iff_lt_or_eq.mp h with h | h
 ·
  exact z j h
 ·
  subst h; intro he; exact e (by rw [he])
theorem sing_no {c : UInt8} (z : ∀ j, j < 23 → c ≠ singles.getD j 0) : c ∉ singles := by
 intro h
 obtain ⟨j, hj, e⟩ := List.getElem_of_mem h
 refine z j hj ?_
 rw [List.getD_eq_getElem?_getD, List.getElem?_eq_getElem hj]; exact e.symm
theorem isLetter_c (ex : FuncId) (c : UInt8) (H : Heap) : C Try.prog 0 (KX ex) 84 [(.int .u8 (c.toNat : Int))] H fun v H' => ∃ (r : Bool), H' = H ∧ v = .bool r ∧ r = isLetB c := by
 refine c_enter Try.func84 rfl rfl ?_
 refine wk_foc 1 rfl ?_
 refine wR 2 [] 2 2 [] [(2, (.bool false))] trivial rfl fun _ => ?_
 refine wR 1 [] 2 20 [] [(2, (.bool ((((decide ((97 : Int) ≤ (c.toNat : Int))) && (decide ((c.toNat : Int) ≤ 122))) || ((decide ((65 : Int) ≤ (c.toNat : Int))) && (decide ((c.toNat : Int) ≤ 90)))) || ((c.toNat : Int) == 95))))] trivial rfl fun _ => ?_
 refine wk_ret ⟨.inr rfl, _, rfl, ((((decide ((97 : Int) ≤ (c.toNat : Int))) && (decide ((c.toNat : Int) ≤ 122))) || ((decide ((65 : Int) ≤ (c.toNat : Int))) && (decide ((c.toNat : Int) ≤ 90)))) || ((c.toNat : Int) == 95)), rfl, rfl, (by simp [isLetB]; grind)⟩
theorem isLetter_c_q (ex : FuncId) (c : UInt8) (H : Heap) : C Try.prog 0 (KX ex) 84 [(.int .u8 (c.toNat : Int))] H fun v H' => v = (.bool (isLetB c)) ∧ H' = H :=
 cq (isLetter_c ex c H) (by rintro _ _ ⟨_, rfl, rfl, rfl⟩; exact ⟨rfl, rfl⟩)
theorem isDigit_c (ex : FuncId) (c : UInt8) (H : Heap) : C Try.prog 0 (KX ex) 62 [(.int .u8 (c.toNat : Int))] H fun v H' => ∃ (r : Bool), H' = H ∧ v = .bool r ∧ r = isDigB c := by
 refine c_enter Try.func62 rfl rfl ?_
 refine wk_foc 1 rfl ?_
 refine wR 2 [] 2 2 [] [(2, (.bool false))] trivial rfl fun _ => ?_
 refine wR 1 [] 2 8 [] [(2, (.bool ((decide ((48 : Int) ≤ (c.toNat : Int))) && (decide ((c.toNat : Int) ≤ 57)))))] trivial rfl fun _ => ?_
 refine wk_ret ⟨.inr rfl, _, rfl, ((decide ((48 : Int) ≤ (c.toNat : Int))) && (decide ((c.toNat : Int) ≤ 57))), rfl, rfl, (by simp [isDigB]; grind)⟩
theorem isDigit_c_q (ex : FuncId) (c : UInt8) (H : Heap) : C Try.prog 0 (KX ex) 62 [(.int .u8 (c.toNat : Int))] H fun v H' => v = (.bool (isDigB c)) ∧ H' = H :=
 cq (isDigit_c ex c H) (by rintro _ _ ⟨_, rfl, rfl, rfl⟩; exact ⟨rfl, rfl⟩)
theorem wordLen_c (ex : FuncId) (s : List UInt8) (H : Heap) (hl : s.length < 4611686018427387904) : C Try.prog 0 (KX ex) 60 [(.string ⟨⟨s⟩⟩)] H fun v H' => ∃ (r : Nat), H' = H ∧ v = .int .i64 (r : Int) ∧ r = wordLen s := by
 refine c_enter Try.func60 rfl rfl ?_
 refine wk_foc 1 rfl ?_
 refine wR 2 [] 2 2 [] [(2, (iI 0))] trivial rfl fun _ => ?_
 refine wR 3 [] 1 0 [3] [(3, (iI 0))] trivial rfl fun _ => ?_
 refine wk_loop_inv (fun (mm : Nat) f H' => ∃ (n : Nat), H' = H ∧ agrees f [(0, (.string ⟨⟨s⟩⟩)), (2, (iI 0)), (3, (iI (n : Int)))] ∧ mm = s.length - n ∧ (n ≤ s.length) ∧ ((s.take n).all isWordB = true)) _ ⟨0, rfl, (agC rfl (agC rfl (agC rfl agN))), rfl, (by first | assumption | omega | (simp at *; omega)), (by rfl)⟩ ?_
 rintro U V H ⟨n, rfl, A, rfl, N, I⟩ J
 refine wk_canon _ A (fun _ => ?_)
 clear A
 refine wk_foc 2 rfl ?_
 have O := u8_lt (s.getD n 0)
 have T := u8_lt (s.getD n 0)
 refine wR 1 [(8, .o (.bool (isLetB (s.getD n 0)))), (13, .o (.bool (isDigB (s.getD n 0))))] 4 19 [] [(19, (.bool ((decide ((n : Int) < (s.length : Int))) && (isLetB (s.getD n 0) || isDigB (s.getD n 0)))))] (vA (fun (z : (decide ((n : Int) < (s.length : Int))) = true) => (vA (show (0 : Int) ≤ (n : Int) from by (try simp only [BS] at z); omega) (show (n : Int) < (((s : List UInt8).length : Nat) : Int) from by (try simp only [BS] at z); omega))) (vA (fun (z : (decide ((n : Int) < (s.length : Int))) = true) => (isLetter_c_q ex (s.getD n 0) H)) (vA (fun (z : (isLetB (s.getD n 0)) = false) (E : (decide ((n : Int) < (s.length : Int))) = true) => (vA (show (0 : Int) ≤ (n : Int) from by (try simp only [BS] at z E); omega) (show (n : Int) < (((s : List UInt8).length : Nat) : Int) from by (try simp only [BS] at z E); omega))) (vA (fun (z : (isLetB (s.getD n 0)) = false) (E : (decide ((n : Int) < (s.length : Int))) = true) => (isDigit_c_q ex (s.getD n 0) H)) trivial)))) rfl fun _ => ?_
 refine wk_if 2 5 (v := ((decide ((n : Int) < (s.length : Int))) && (isLetB (s.getD n 0) || isDigB (s.getD n 0)))) rfl rfl rfl rfl (fun c7 => ?_) (fun c7 => ?_)
 ·
  try simp only [BS] at c7
  have c := c7
  refine wR 2 [] 20 21 [3] [(3, (iI ((n : Int) + 1)))] (vA (vi (n := (n : Int) + 1) (by omega)) trivial) rfl fun _ => ?_
  refine J _ _ _ ?_ ⟨n + 1, rfl, (agC rfl (agC rfl (agC rfl agN))), rfl, (by first | assumption | omega | (simp at *; omega)), (by rw [all_take (by omega), I, isWordB]; simpa using c.2)⟩
  omega
 ·
  try simp only [BS] at c7
  have c := c7
  refine wR 1 [] 2 2 [22] [(2, (iI (n : Int)))] trivial rfl fun _ => ?_
  refine wk_ret ⟨.inr rfl, _, rfl, n, rfl, rfl, (by exact takeWhile_at N I (fun hn => by have := c (by omega); rw [isWordB, this.1, this.2]; rfl))⟩
theorem wordLen_c_q (ex : FuncId) (s : List UInt8) (H : Heap) (hl : s.length < 4611686018427387904) : C Try.prog 0 (KX ex) 60 [(.string ⟨⟨s⟩⟩)] H fun v H' => v = (iI ((wordLen s : Nat) : Int)) ∧ H' = H :=
 cq (wordLen_c ex s H hl) (by rintro _ _ ⟨_, rfl, rfl, rfl⟩; exact ⟨rfl, rfl⟩)
theorem validNum_c (ex : FuncId) (s : List UInt8) (H : Heap) (hl : s.length < 4611686018427387904) (U : 0 < s.length) : C Try.prog 0 (KX ex) 63 [(.string ⟨⟨s⟩⟩)] H fun v H' => ∃ (r : Bool), H' = H ∧ v = .bool r ∧ r = validNum s := by
 refine c_enter Try.func63 rfl rfl ?_
 refine wk_foc 1 rfl ?_
 refine wR 3 [] 2 2 [] [(2, (.bool false))] trivial rfl fun _ => ?_
 refine wR 2 [] 1 0 [3] [(3, (iI 0))] trivial rfl fun _ => ?_
 refine wk_loop_inv (fun (mm : Nat) f H' => ∃ (i : Nat), H' = H ∧ agrees f [(0, (.string ⟨⟨s⟩⟩)), (3, (iI (i : Int)))] ∧ mm = s.length - i ∧ (i ≤ s.length) ∧ ((s.take i).all isDigB = true)) _ ⟨0, rfl, (agC rfl (agC rfl agN)), rfl, (by first | assumption | omega | (simp at *; omega)), (by rfl)⟩ ?_
 rintro O T H ⟨i, rfl, A, rfl, V, E⟩ I
 refine wk_canon _ A (fun _ => ?_)
 clear A
 refine wk_foc 2 rfl ?_
 refine wR 1 [] 4 7 [] [(7, (.bool (decide ((i : Int) < (s.length : Int)))))] trivial rfl fun _ => ?_
 refine wk_if 4 5 (v := (decide ((i : Int) < (s.length : Int)))) rfl rfl rfl rfl (fun c5 => ?_) (fun c5 => ?_)
 ·
  try simp only [BS] at c5
  have ci := c5
  have N := u8_lt (s.getD i 0)
  refine wR 1 [(3, .o (.bool (isDigB (s.getD i 0))))] 10 14 [] [(14, (.bool (!(isDigB (s.getD i 0)))))] (vA (vA (show (0 : Int) ≤ (i : Int) from by first | omega | (show 0 < _; omega)) (show (i : Int) < (((s : List UInt8).length : Nat) : Int) from by first | omega | (show 0 < _; omega))) (vA (isDigit_c_q ex (s.getD i 0) H) trivial)) rfl fun _ => ?_
  refine wk_if 1 2 (v := (!(isDigB (s.getD i 0)))) rfl rfl rfl rfl (fun z => ?_) (fun z => ?_)
  ·
   try simp only [BS] at z
   have c := z
   refine wR 1 [] 2 2 [] [(2, (.bool false))] trivial rfl fun _ => ?_
   refine wk_ret ⟨.inr rfl, _, rfl, false, rfl, rfl, (by exact vn1 (by omega) c)⟩
  ·
   try simp only [BS] at z
   have c := z
   refine wR 1 [] 8 9 [3] [(3, (iI ((i : Int) + 1)))] (vA (vi (n := (i : Int) + 1) (by first | omega | (show 0 < _; omega))) trivial) rfl fun _ => ?_
   refine I _ _ _ ?_ ⟨i + 1, rfl, (agC rfl (agC rfl agN)), rfl, (by first | assumption | omega | (simp at *; omega)), (by rw [all_take (by omega), E, c]; rfl)⟩
   omega
 ·
  try simp only [BS] at c5
  have ci := c5
  have J := u8_lt (s.getD 0 0)
  refine wR 1 [] 15 36 [2] [(2, (.bool (((((s.getD 0 0).toNat : Int) != 48) || ((s.length : Int) == 1)) && ((decide ((s.length : Int) < 19)) || (((s.length : Int) == 19) && (Op.bytesLess s [57, 50, 50, 51, 51, 55, 50, 48, 51, 54, 56, 53, 52, 55, 55, 53, 56, 48, 56] || s == ([57, 50, 50, 51, 51, 55, 50, 48, 51, 54, 56, 53, 52, 55, 55, 53, 56, 48, 56] : List UInt8)))))))] (vA (vA (show (0 : Int) ≤ 0 from by first | omega | (show 0 < _; omega)) (show (0 : Int) < (((s : List UInt8).length : Nat) : Int) from by first | omega | (show 0 < _; omega))) trivial) rfl fun _ => ?_
  refine wk_ret ⟨.inr rfl, _, rfl, (((((s.getD 0 0).toNat : Int) != 48) || ((s.length : Int) == 1)) && ((decide ((s.length : Int) < 19)) || (((s.length : Int) == 19) && (Op.bytesLess s [57, 50, 50, 51, 51, 55, 50, 48, 51, 54, 56, 53, 52, 55, 55, 53, 56, 48, 56] || s == ([57, 50, 50, 51, 51, 55, 50, 48, 51, 54, 56, 53, 52, 55, 55, 53, 56, 48, 56] : List UInt8))))), rfl, rfl, (by exact vn2 (all_of_take (by omega) E))⟩
theorem validNum_c_q (ex : FuncId) (s : List UInt8) (H : Heap) (hl : s.length < 4611686018427387904) (z : 0 < s.length) : C Try.prog 0 (KX ex) 63 [(.string ⟨⟨s⟩⟩)] H fun v H' => v = (.bool (validNum s)) ∧ H' = H :=
 cq (validNum_c ex s H hl z) (by rintro _ _ ⟨_, rfl, rfl, rfl⟩; exact ⟨rfl, rfl⟩)
theorem symLen_c (ex : FuncId) (s : List UInt8) (H : Heap) (h0 : 0 < s.length) : C Try.prog 0 (KX ex) 61 [(.string ⟨⟨s⟩⟩)] H fun v H' => ∃ (r : Nat), H' = H ∧ v = .int .i64 (r : Int) ∧ r = symLen s := by
 refine c_enter Try.func61 rfl rfl ?_
 refine wk_foc 1 rfl ?_
 refine wR 3 [] 2 2 [] [(2, (iI 0))] trivial rfl fun _ => ?_
 refine wR 2 [] 6 7 [] [(6, (.agg ⟨[(.string ⟨⟨[62, 62, 62]⟩⟩), (.string ⟨⟨[60, 60]⟩⟩), (.string ⟨⟨[62, 62]⟩⟩), (.string ⟨⟨[60, 61]⟩⟩), (.string ⟨⟨[62, 61]⟩⟩), (.string ⟨⟨[61, 61]⟩⟩), (.string ⟨⟨[33, 61]⟩⟩)]⟩)), (7, (iI 0))] trivial rfl fun _ => ?_
 refine wk_loop ?_
 refine wk_foc 1 rfl ?_
 refine wR 2 [] 8 8 [] [(8, (.bool true))] trivial rfl fun _ => ?_
 refine wk_ift 4 (v := true) rfl rfl rfl rfl ?_
 refine wR 2 [] 9 9 [4] [(4, (.string ⟨⟨[62, 62, 62]⟩⟩))] trivial rfl fun _ => ?_
 refine wR 1 [] 10 22 [] [(22, (.bool ((decide ((3 : Int) ≤ (s.length : Int))) && ((s.take 3) == ([62, 62, 62] : List UInt8)))))] (vA (fun (z : (decide ((3 : Int) ≤ (s.length : Int))) = true) => (vA (show (0 : Int) ≤ 3 from by (try simp only [BS] at z); (first | omega | (show _ < 23; omega))) (show (3 : Int) ≤ (((s : List UInt8).length : Nat) : Int) from by (try simp only [BS] at z); (first | omega | (show _ < 23; omega))))) trivial) rfl fun _ => ?_
 refine wk_if 1 2 (v := ((decide ((3 : Int) ≤ (s.length : Int))) && ((s.take 3) == ([62, 62, 62] : List UInt8)))) rfl rfl rfl rfl (fun c6 => ?_) (fun c6 => ?_)
 ·
  try simp only [BS] at c6
  have nn := (c6).2
  refine wR 1 [] 23 24 [2] [(2, (iI 3))] trivial rfl fun _ => ?_
  refine wk_ret ⟨.inr rfl, _, rfl, 3, rfl, rfl, (by simp only [symLen, *, ↓reduceIte, true_or, or_true])⟩
 ·
  try simp only [BS] at c6
  first | have nn := tk3 c6 | have nn := tk2 c6
  refine wR 1 [] 7 7 [25] [(7, (iI 1))] (vA (vi (n := (1 : Int)) (by first | omega | (show _ < 23; omega))) trivial) rfl fun _ => ?_
  refine wk_loop ?_
  refine wk_foc 1 rfl ?_
  refine wR 2 [] 8 8 [] [(8, (.bool true))] trivial rfl fun _ => ?_
  refine wk_ift 4 (v := true) rfl rfl rfl rfl ?_
  refine wR 2 [] 9 9 [4] [(4, (.string ⟨⟨[60, 60]⟩⟩))] trivial rfl fun _ => ?_
  refine wR 1 [] 10 22 [] [(22, (.bool ((decide ((2 : Int) ≤ (s.length : Int))) && ((s.take 2) == ([60, 60] : List UInt8)))))] (vA (fun (z : (decide ((2 : Int) ≤ (s.length : Int))) = true) => (vA (show (0 : Int) ≤ 2 from by (try simp only [BS] at z); (first | omega | (show _ < 23; omega))) (show (2 : Int) ≤ (((s : List UInt8).length : Nat) : Int) from by (try simp only [BS] at z); (first | omega | (show _ < 23; omega))))) trivial) rfl fun _ => ?_
  refine wk_if 1 2 (v := ((decide ((2 : Int) ≤ (s.length : Int))) && ((s.take 2) == ([60, 60] : List UInt8)))) rfl rfl rfl rfl (fun A => ?_) (fun A => ?_)
  ·
   try simp only [BS] at A
   have nn := (A).2
   refine wR 1 [] 23 24 [2] [(2, (iI 2))] trivial rfl fun _ => ?_
   refine wk_ret ⟨.inr rfl, _, rfl, 2, rfl, rfl, (by simp only [symLen, *, ↓reduceIte, true_or, or_true])⟩
  ·
   try simp only [BS] at A
   first | have nn := tk3 A | have nn := tk2 A
   refine wR 1 [] 7 7 [25] [(7, (iI 2))] (vA (vi (n := (2 : Int)) (by first | omega | (show _ < 23; omega))) trivial) rfl fun _ => ?_
   refine wk_loop ?_
   refine wk_foc 1 rfl ?_
   refine wR 2 [] 8 8 [] [(8, (.bool true))] trivial rfl fun _ => ?_
   refine wk_ift 4 (v := true) rfl rfl rfl rfl ?_
   refine wR 2 [] 9 9 [4] [(4, (.string ⟨⟨[62, 62]⟩⟩))] trivial rfl fun _ => ?_
   refine wR 1 [] 10 22 [] [(22, (.bool ((decide ((2 : Int) ≤ (s.length : Int))) && ((s.take 2) == ([62, 62] : List UInt8)))))] (vA (fun (z : (decide ((2 : Int) ≤ (s.length : Int))) = true) => (vA (show (0 : Int) ≤ 2 from by (try simp only [BS] at z); (first | omega | (show _ < 23; omega))) (show (2 : Int) ≤ (((s : List UInt8).length : Nat) : Int) from by (try simp only [BS] at z); (first | omega | (show _ < 23; omega))))) trivial) rfl fun _ => ?_
   refine wk_if 1 2 (v := ((decide ((2 : Int) ≤ (s.length : Int))) && ((s.take 2) == ([62, 62] : List UInt8)))) rfl rfl rfl rfl (fun E => ?_) (fun E => ?_)
   ·
    try simp only [BS] at E
    have nn := (E).2
    refine wR 1 [] 23 24 [2] [(2, (iI 2))] trivial rfl fun _ => ?_
    refine wk_ret ⟨.inr rfl, _, rfl, 2, rfl, rfl, (by simp only [symLen, *, ↓reduceIte, true_or, or_true])⟩
   ·
    try simp only [BS] at E
    first | have nn := tk3 E | have nn := tk2 E
    refine wR 1 [] 7 7 [25] [(7, (iI 3))] (vA (vi (n := (3 : Int)) (by first | omega | (show _ < 23; omega))) trivial) rfl fun _ => ?_
    refine wk_loop ?_
    refine wk_foc 1 rfl ?_
    refine wR 2 [] 8 8 [] [(8, (.bool true))] trivial rfl fun _ => ?_
    refine wk_ift 4 (v := true) rfl rfl rfl rfl ?_
    refine wR 2 [] 9 9 [4] [(4, (.string ⟨⟨[60, 61]⟩⟩))] trivial rfl fun _ => ?_
    refine wR 1 [] 10 22 [] [(22, (.bool ((decide ((2 : Int) ≤ (s.length : Int))) && ((s.take 2) == ([60, 61] : List UInt8)))))] (vA (fun (z : (decide ((2 : Int) ≤ (s.length : Int))) = true) => (vA (show (0 : Int) ≤ 2 from by (try simp only [BS] at z); (first | omega | (show _ < 23; omega))) (show (2 : Int) ≤ (((s : List UInt8).length : Nat) : Int) from by (try simp only [BS] at z); (first | omega | (show _ < 23; omega))))) trivial) rfl fun _ => ?_
    refine wk_if 1 2 (v := ((decide ((2 : Int) ≤ (s.length : Int))) && ((s.take 2) == ([60, 61] : List UInt8)))) rfl rfl rfl rfl (fun I => ?_) (fun I => ?_)
    ·
     try simp only [BS] at I
     have nn := (I).2
     refine wR 1 [] 23 24 [2] [(2, (iI 2))] trivial rfl fun _ => ?_
     refine wk_ret ⟨.inr rfl, _, rfl, 2, rfl, rfl, (by simp only [symLen, *, ↓reduceIte, true_or, or_true])⟩
    ·
     try simp only [BS] at I
     first | have nn := tk3 I | have nn := tk2 I
     refine wR 1 [] 7 7 [25] [(7, (iI 4))] (vA (vi (n := (4 : Int)) (by first | omega | (show _ < 23; omega))) trivial) rfl fun _ => ?_
     refine wk_loop ?_
     refine wk_foc 1 rfl ?_
     refine wR 2 [] 8 8 [] [(8, (.bool true))] trivial rfl fun _ => ?_
     refine wk_ift 4 (v := true) rfl rfl rfl rfl ?_
     refine wR 2 [] 9 9 [4] [(4, (.string ⟨⟨[62, 61]⟩⟩))] trivial rfl fun _ => ?_
     refine wR 1 [] 10 22 [] [(22, (.bool ((decide ((2 : Int) ≤ (s.length : Int))) && ((s.take 2) == ([62, 61] : List UInt8)))))] (vA (fun (z : (decide ((2 : Int) ≤ (s.length : Int))) = true) => (vA (show (0 : Int) ≤ 2 from by (try simp only [BS] at z); (first | omega | (show _ < 23; omega))) (show (2 : Int) ≤ (((s : List UInt8).length : Nat) : Int) from by (try simp only [BS] at z); (first | omega | (show _ < 23; omega))))) trivial) rfl fun _ => ?_
     refine wk_if 1 2 (v := ((decide ((2 : Int) ≤ (s.length : Int))) && ((s.take 2) == ([62, 61] : List UInt8)))) rfl rfl rfl rfl (fun J => ?_) (fun J => ?_)
     ·
      try simp only [BS] at J
      have nn := (J).2
      refine wR 1 [] 23 24 [2] [(2, (iI 2))] trivial rfl fun _ => ?_
      refine wk_ret ⟨.inr rfl, _, rfl, 2, rfl, rfl, (by simp only [symLen, *, ↓reduceIte, true_or, or_true])⟩
     ·
      try simp only [BS] at J
      first | have nn := tk3 J | have nn := tk2 J
      refine wR 1 [] 7 7 [25] [(7, (iI 5))] (vA (vi (n := (5 : Int)) (by first | omega | (show _ < 23; omega))) trivial) rfl fun _ => ?_
      refine wk_loop ?_
      refine wk_foc 1 rfl ?_
      refine wR 2 [] 8 8 [] [(8, (.bool true))] trivial rfl fun _ => ?_
      refine wk_ift 4 (v := true) rfl rfl rfl rfl ?_
      refine wR 2 [] 9 9 [4] [(4, (.string ⟨⟨[61, 61]⟩⟩))] trivial rfl fun _ => ?_
      refine wR 1 [] 10 22 [] [(22, (.bool ((decide ((2 : Int) ≤ (s.length : Int))) && ((s.take 2) == ([61, 61] : List UInt8)))))] (vA (fun (z : (decide ((2 : Int) ≤ (s.length : Int))) = true) => (vA (show (0 : Int) ≤ 2 from by (try simp only [BS] at z); (first | omega | (show _ < 23; omega))) (show (2 : Int) ≤ (((s : List UInt8).length : Nat) : Int) from by (try simp only [BS] at z); (first | omega | (show _ < 23; omega))))) trivial) rfl fun _ => ?_
      refine wk_if 1 2 (v := ((decide ((2 : Int) ≤ (s.length : Int))) && ((s.take 2) == ([61, 61] : List UInt8)))) rfl rfl rfl rfl (fun N => ?_) (fun N => ?_)
      ·
       try simp only [BS] at N
       have nn := (N).2
       refine wR 1 [] 23 24 [2] [(2, (iI 2))] trivial rfl fun _ => ?_
       refine wk_ret ⟨.inr rfl, _, rfl, 2, rfl, rfl, (by simp only [symLen, *, ↓reduceIte, true_or, or_true])⟩
      ·
       try simp only [BS] at N
       first | have nn := tk3 N | have nn := tk2 N
       refine wR 1 [] 7 7 [25] [(7, (iI 6))] (vA (vi (n := (6 : Int)) (by first | omega | (show _ < 23; omega))) trivial) rfl fun _ => ?_
       refine wk_loop ?_
       refine wk_foc 1 rfl ?_
       refine wR 2 [] 8 8 [] [(8, (.bool true))] trivial rfl fun _ => ?_
       refine wk_ift 4 (v := true) rfl rfl rfl rfl ?_
       refine wR 2 [] 9 9 [4] [(4, (.string ⟨⟨[33, 61]⟩⟩))] trivial rfl fun _ => ?_
       refine wR 1 [] 10 22 [] [(22, (.bool ((decide ((2 : Int) ≤ (s.length : Int))) && ((s.take 2) == ([33, 61] : List UInt8)))))] (vA (fun (z : (decide ((2 : Int) ≤ (s.length : Int))) = true) => (vA (show (0 : Int) ≤ 2 from by (try simp only [BS] at z); (first | omega | (show _ < 23; omega))) (show (2 : Int) ≤ (((s : List UInt8).length : Nat) : Int) from by (try simp only [BS] at z); (first | omega | (show _ < 23; omega))))) trivial) rfl fun _ => ?_
       refine wk_if 1 2 (v := ((decide ((2 : Int) ≤ (s.length : Int))) && ((s.take 2) == ([33, 61] : List UInt8)))) rfl rfl rfl rfl (fun O => ?_) (fun O => ?_)
       ·
        try simp only [BS] at O
        have nn := (O).2
        refine wR 1 [] 23 24 [2] [(2, (iI 2))] trivial rfl fun _ => ?_
        refine wk_ret ⟨.inr rfl, _, rfl, 2, rfl, rfl, (by simp only [symLen, *, ↓reduceIte, true_or, or_true])⟩
       ·
        try simp only [BS] at O
        first | have nn := tk3 O | have nn := tk2 O
        refine wR 1 [] 7 7 [25] [(7, (iI 7))] (vA (vi (n := (7 : Int)) (by first | omega | (show _ < 23; omega))) trivial) rfl fun _ => ?_
        refine wk_loop ?_
        refine wk_foc 1 rfl ?_
        refine wR 2 [] 8 8 [] [(8, (.bool false))] trivial rfl fun _ => ?_
        refine wk_iff 6 (v := false) rfl rfl rfl rfl ?_
        refine wR 2 [] 1 0 [5] [(5, (iI 0))] trivial rfl fun _ => ?_
        refine wk_loop_inv (fun (mm : Nat) f H' => ∃ (i : Nat), H' = H ∧ agrees f [(0, (.string ⟨⟨s⟩⟩)), (5, (iI (i : Int)))] ∧ mm = 23 - i ∧ (i ≤ 23) ∧ (∀ j, j < i → s.getD 0 0 ≠ singles.getD j 0)) _ ⟨0, rfl, (agC rfl (agC rfl agN)), rfl, (by first | assumption | omega | (simp at *; omega)), (by intro j hj; omega)⟩ ?_
        rintro ad ae H ⟨i, rfl, V, rfl, h1, Z⟩ Y
        refine wk_canon _ V (fun _ => ?_)
        clear V
        refine wk_foc 2 rfl ?_
        refine wR 1 [] 26 27 [] [(27, (.bool (decide ((i : Int) < 23))))] trivial rfl fun _ => ?_
        refine wk_if 4 5 (v := (decide ((i : Int) < 23))) rfl rfl rfl rfl (fun U => ?_) (fun U => ?_)
        ·
         try simp only [BS] at U
         have aa := u8_lt (s.getD 0 0)
         have ab := u8_lt (([43, 45, 42, 47, 37, 38, 124, 94, 126, 33, 60, 62, 61, 63, 58, 59, 44, 40, 41, 123, 125, 91, 93] : List UInt8).getD i 0)
         refine wRD 1 [] 30 34 [] [(34, (.bool (((s.getD 0 0).toNat : Int) == ((([43, 45, 42, 47, 37, 38, 124, 94, 126, 33, 60, 62, 61, 63, 58, 59, 44, 40, 41, 123, 125, 91, 93] : List UInt8).getD i 0).toNat : Int))))] (vA (vA (show (0 : Int) ≤ 0 from by first | omega | (show _ < 23; omega)) (show (0 : Int) < (((s : List UInt8).length : Nat) : Int) from by first | omega | (show _ < 23; omega))) (vA (vA (show (0 : Int) ≤ (i : Int) from by first | omega | (show _ < 23; omega)) (show (i : Int) < ((([43, 45, 42, 47, 37, 38, 124, 94, 126, 33, 60, 62, 61, 63, 58, 59, 44, 40, 41, 123, 125, 91, 93] : List UInt8).length : Nat) : Int) from by first | omega | (show _ < 23; omega))) trivial)) rfl rfl fun _ => ?_
         refine wk_if 1 2 (v := (((s.getD 0 0).toNat : Int) == ((([43, 45, 42, 47, 37, 38, 124, 94, 126, 33, 60, 62, 61, 63, 58, 59, 44, 40, 41, 123, 125, 91, 93] : List UInt8).getD i 0).toNat : Int))) rfl rfl rfl rfl (fun T => ?_) (fun T => ?_)
         ·
          try simp only [BS] at T
          have ci := T
          refine wR 1 [] 2 2 [] [(2, (iI 1))] trivial rfl fun _ => ?_
          refine wk_ret ⟨.inr rfl, _, rfl, 1, rfl, rfl, (by have ms := sing_mem (by omega) ci; simp only [symLen, *, ↓reduceIte, or_self])⟩
         ·
          try simp only [BS] at T
          have ci := T
          refine wR 1 [] 28 29 [5] [(5, (iI ((i : Int) + 1)))] (vA (vi (n := (i : Int) + 1) (by first | omega | (show _ < 23; omega))) trivial) rfl fun _ => ?_
          refine Y _ _ _ ?_ ⟨i + 1, rfl, (agC rfl (agC rfl agN)), rfl, (by first | assumption | omega | (simp at *; omega)), (by exact fun j hj => sing_ne ci Z hj)⟩
          omega
        ·
         try simp only [BS] at U
         refine wR 1 [] 2 2 [] [(2, (iI 0))] trivial rfl fun _ => ?_
         refine wk_ret ⟨.inr rfl, _, rfl, 0, rfl, rfl, (by have ms := sing_no (fun j hj => Z j (by omega)); simp only [symLen, *, ↓reduceIte, or_self])⟩
theorem symLen_c_q (ex : FuncId) (s : List UInt8) (H : Heap) (z : 0 < s.length) : C Try.prog 0 (KX ex) 61 [(.string ⟨⟨s⟩⟩)] H fun v H' => v = (iI ((symLen s : Nat) : Int)) ∧ H' = H :=
 cq (symLen_c ex s H z) (by rintro _ _ ⟨_, rfl, rfl, rfl⟩; exact ⟨rfl, rfl⟩)
def spl : Bool → List UInt8 → Nat
 | _, [] => 0
 | false, c :: s => if c = 32 ∨ c = 9 ∨ c = 10 ∨ c = 13 then 1 + spl false s else if c = 35 then 1 + spl true s else 0
 | true, c :: s => if c = 10 then 1 + spl false s else 1 + spl true s
theorem dropc {s : List UInt8} {n : Nat} (h : n < s.length) : s.drop n = s.getD n 0 :: s.drop (n + 1) := by
 rw [List.drop_eq_getElem_cons h, List.getD_eq_getElem?_getD, List.getElem?_eq_getElem h]; rfl
theorem u8i {c : UInt8} {k : Nat} (hk : k < 256) (h : (c.toNat : Int) = (k : Int)) : c = UInt8.ofNat k := by
 apply UInt8.toNat_inj.mp
 rw [UInt8.toNat_ofNat']
 omega
theorem u8e {c : UInt8} (k : Nat) (h : c = UInt8.ofNat k) (hk : k < 256 := by omega) : (c.toNat : Int) = (k : Int) := by
 rw [h, UInt8.toNat_ofNat']; omega
theorem spE {b : Bool} {s : List UInt8} {n : Nat} (h : ¬ n < s.length) (hn : n ≤ s.length) (e : n + spl b (s.drop n) = spl false s) : n = spl false s := by
 rw [List.drop_of_length_le (by omega)] at e
 simpa [spl] using e
theorem spA {s : List UInt8} {n : Nat} (h : n < s.length) (c : s.getD n 0 = 32 ∨ s.getD n 0 = 9 ∨ s.getD n 0 = 10 ∨ s.getD n 0 = 13) (e : n + spl false (s.drop n) = spl false s) : n + 1 + spl false (s.drop (n + 1)) = spl false s := by
 rw [dropc h, spl, if_pos c] at e; omega
theorem spH {s : List UInt8} {n : Nat} (h : n < s.length) (c : s.getD n 0 = 35) (e : n + spl false (s.drop n) = spl false s) : n + spl true (s.drop n) = spl false s := by
 rw [dropc h, spl, if_neg (by rw [c]; decide), if_pos c] at e
 rw [dropc h, spl, if_neg (by rw [c]; decide)]; exact e
theorem spT {s : List UInt8} {n : Nat} (h : n < s.length) (c : s.getD n 0 ≠ 10) (e : n + spl true (s.drop n) = spl false s) : n + 1 + spl true (s.drop (n + 1)) = spl false s := by
 rw [dropc h, spl, if_neg c] at e; omega
theorem spN {s : List UInt8} {n : Nat} (hn : n ≤ s.length) (c : n < s.length → s.getD n 0 = 10) (e : n + spl true (s.drop n) = spl false s) : n + spl false (s.drop n) = spl false s := by
 by_cases h : n < s.length
 ·
  rw [dropc h, spl, if_pos (c h)] at e
  rw [dropc h, spl, if_pos (.inr (.inr (.inl (c h))))]; exact e
 ·
  rw [List.drop_of_length_le (by omega)] at e ⊢; exact e
theorem spX {s : List UInt8} {n : Nat} (h : n < s.length) (c : ¬(s.getD n 0 = 32 ∨ s.getD n 0 = 9 ∨ s.getD n 0 = 10 ∨ s.getD n 0 = 13)) (c2 : s.getD n 0 ≠ 35) (e : n + spl false (s.drop n) = spl false s) : n = spl false s := by
 rw [dropc h, spl, if_neg c, if_neg c2] at e; exact e
theorem spaceLen_c (ex : FuncId) (s : List UInt8) (H : Heap) (hl : s.length < 4611686018427387904) : C Try.prog 0 (KX ex) 35 [(.string ⟨⟨s⟩⟩)] H fun v H' => ∃ (r : Nat), H' = H ∧ v = .int .i64 (r : Int) ∧ r = spl false s := by
 refine c_enter Try.func35 rfl rfl ?_
 refine wk_foc 1 rfl ?_
 refine wR 2 [] 2 2 [] [(2, (iI 0))] trivial rfl fun _ => ?_
 refine wR 3 [] 1 0 [3] [(3, (iI 0))] trivial rfl fun _ => ?_
 refine wk_loop_inv (fun (mm : Nat) f H' => ∃ (n : Nat), H' = H ∧ agrees f [(0, (.string ⟨⟨s⟩⟩)), (3, (iI (n : Int)))] ∧ mm = s.length - n ∧ (n ≤ s.length) ∧ (n + spl false (s.drop n) = spl false s)) _ ⟨0, rfl, (agC rfl (agC rfl agN)), rfl, (by first | assumption | omega | (simp at *; omega)), (by simp)⟩ ?_
 rintro al f3 H ⟨n, rfl, ab, rfl, h1, z⟩ J
 refine wk_canon _ ab (fun _ => ?_)
 clear ab
 refine wk_foc 2 rfl ?_
 refine wR 1 [] 4 7 [] [(7, (.bool (decide ((n : Int) < (s.length : Int)))))] trivial rfl fun _ => ?_
 refine wk_if 3 5 (v := (decide ((n : Int) < (s.length : Int)))) rfl rfl rfl rfl (fun c5 => ?_) (fun c5 => ?_)
 ·
  try simp only [BS] at c5
  have aj := u8_lt (s.getD n 0)
  refine wR 4 [] 8 10 [] [(10, (.int .u8 ((s.getD n 0).toNat : Int)))] (vA (vA (show (0 : Int) ≤ (n : Int) from by omega) (show (n : Int) < (((s : List UInt8).length : Nat) : Int) from by omega)) trivial) rfl fun _ => ?_
  refine wR 1 [] 12 13 [] [(12, (.bool (((s.getD n 0).toNat : Int) == 32)))] trivial rfl fun _ => ?_
  refine wk_if 1 1 (v := (((s.getD n 0).toNat : Int) == 32)) rfl rfl rfl rfl (fun N => ?_) (fun N => ?_)
  ·
   have c9 := N
   try simp only [BS] at c9
   refine wk_ift 0 (v := (((s.getD n 0).toNat : Int) == 32)) rfl N rfl rfl ?_
   refine wR 3 [] 17 18 [3] [(3, (iI ((n : Int) + 1)))] (vA (vi (n := (n : Int) + 1) (by omega)) trivial) rfl fun _ => ?_
   refine J _ _ _ ?_ ⟨n + 1, rfl, (agC rfl (agC rfl agN)), rfl, (by first | assumption | omega | (simp at *; omega)), (by first | exact spA (by omega) (.inl (u8i (k := 32) (by omega) (by omega))) z | exact spA (by omega) (.inr (.inl (u8i (k := 9) (by omega) (by omega)))) z | exact spA (by omega) (.inr (.inr (.inl (u8i (k := 10) (by omega) (by omega))))) z | exact spA (by omega) (.inr (.inr (.inr (u8i (k := 13) (by omega) (by omega))))) z | exact spN I (fun h => (u8i (k := 10) (by omega) (by omega))) O)⟩
   omega
  ·
   have c9 := N
   try simp only [BS] at c9
   refine wR 1 [] 12 14 [] [(12, (.bool (((s.getD n 0).toNat : Int) == 9)))] trivial rfl fun _ => ?_
   refine wk_if 1 1 (v := (((s.getD n 0).toNat : Int) == 9)) rfl rfl rfl rfl (fun A => ?_) (fun A => ?_)
   ·
    have T := A
    try simp only [BS] at T
    refine wk_ift 0 (v := (((s.getD n 0).toNat : Int) == 9)) rfl A rfl rfl ?_
    refine wR 3 [] 17 18 [3] [(3, (iI ((n : Int) + 1)))] (vA (vi (n := (n : Int) + 1) (by omega)) trivial) rfl fun _ => ?_
    refine J _ _ _ ?_ ⟨n + 1, rfl, (agC rfl (agC rfl agN)), rfl, (by first | assumption | omega | (simp at *; omega)), (by first | exact spA (by omega) (.inl (u8i (k := 32) (by omega) (by omega))) z | exact spA (by omega) (.inr (.inl (u8i (k := 9) (by omega) (by omega)))) z | exact spA (by omega) (.inr (.inr (.inl (u8i (k := 10) (by omega) (by omega))))) z | exact spA (by omega) (.inr (.inr (.inr (u8i (k := 13) (by omega) (by omega))))) z | exact spN I (fun h => (u8i (k := 10) (by omega) (by omega))) O)⟩
    omega
   ·
    have T := A
    try simp only [BS] at T
    refine wR 1 [] 12 15 [] [(12, (.bool (((s.getD n 0).toNat : Int) == 10)))] trivial rfl fun _ => ?_
    refine wk_if 1 0 (v := (((s.getD n 0).toNat : Int) == 10)) rfl rfl rfl rfl (fun E => ?_) (fun E => ?_)
    ·
     have U := E
     try simp only [BS] at U
     refine wk_ift 0 (v := (((s.getD n 0).toNat : Int) == 10)) rfl E rfl rfl ?_
     refine wR 3 [] 17 18 [3] [(3, (iI ((n : Int) + 1)))] (vA (vi (n := (n : Int) + 1) (by omega)) trivial) rfl fun _ => ?_
     refine J _ _ _ ?_ ⟨n + 1, rfl, (agC rfl (agC rfl agN)), rfl, (by first | assumption | omega | (simp at *; omega)), (by first | exact spA (by omega) (.inl (u8i (k := 32) (by omega) (by omega))) z | exact spA (by omega) (.inr (.inl (u8i (k := 9) (by omega) (by omega)))) z | exact spA (by omega) (.inr (.inr (.inl (u8i (k := 10) (by omega) (by omega))))) z | exact spA (by omega) (.inr (.inr (.inr (u8i (k := 13) (by omega) (by omega))))) z | exact spN I (fun h => (u8i (k := 10) (by omega) (by omega))) O)⟩
     omega
    ·
     have U := E
     try simp only [BS] at U
     refine wR 1 [] 12 16 [] [(12, (.bool (((s.getD n 0).toNat : Int) == 13)))] trivial rfl fun _ => ?_
     refine wk_if 0 1 (v := (((s.getD n 0).toNat : Int) == 13)) rfl rfl rfl rfl (fun V => ?_) (fun V => ?_)
     ·
      try simp only [BS] at V
      refine wR 3 [] 17 18 [3] [(3, (iI ((n : Int) + 1)))] (vA (vi (n := (n : Int) + 1) (by omega)) trivial) rfl fun _ => ?_
      refine J _ _ _ ?_ ⟨n + 1, rfl, (agC rfl (agC rfl agN)), rfl, (by first | assumption | omega | (simp at *; omega)), (by first | exact spA (by omega) (.inl (u8i (k := 32) (by omega) (by omega))) z | exact spA (by omega) (.inr (.inl (u8i (k := 9) (by omega) (by omega)))) z | exact spA (by omega) (.inr (.inr (.inl (u8i (k := 10) (by omega) (by omega))))) z | exact spA (by omega) (.inr (.inr (.inr (u8i (k := 13) (by omega) (by omega))))) z | exact spN I (fun h => (u8i (k := 10) (by omega) (by omega))) O)⟩
      omega
     ·
      try simp only [BS] at V
      refine wR 1 [] 19 20 [] [(19, (.bool (((s.getD n 0).toNat : Int) == 35)))] trivial rfl fun _ => ?_
      refine wk_if 1 1 (v := (((s.getD n 0).toNat : Int) == 35)) rfl rfl rfl rfl (fun Y => ?_) (fun Y => ?_)
      ·
       try simp only [BS] at Y
       refine wk_loop_inv (fun (mm : Nat) f H' => ∃ (m : Nat), H' = H ∧ agrees f [(0, (.string ⟨⟨s⟩⟩)), (3, (iI (m : Int))), (7, (.bool (decide ((n : Int) < (s.length : Int))))), (10, (.int .u8 ((s.getD n 0).toNat : Int))), (12, (.bool (((s.getD n 0).toNat : Int) == 13))), (19, (.bool (((s.getD n 0).toNat : Int) == 35)))] ∧ mm = s.length - m ∧ (m ≤ s.length) ∧ (m + spl true (s.drop m) = spl false s) ∧ (n ≤ m)) _ ⟨n, rfl, (agC rfl (agC rfl (agC rfl (agC rfl (agC rfl (agC rfl agN)))))), rfl, (by first | assumption | omega | (simp at *; omega)), (by exact spH (by omega) (u8i (k := 35) (by omega) (by omega)) z), (by first | assumption | omega | (simp at *; omega))⟩ ?_
       rintro ai ak H ⟨m, rfl, aa, rfl, I, O, g3⟩ ae
       refine wk_canon _ aa (fun _ => ?_)
       clear aa
       refine wk_foc 2 rfl ?_
       have ah := u8_lt (s.getD m 0)
       refine wR 1 [] 21 30 [] [(30, (.bool ((decide ((m : Int) < (s.length : Int))) && (((s.getD m 0).toNat : Int) != 10))))] (vA (fun (I : (decide ((m : Int) < (s.length : Int))) = true) => (vA (show (0 : Int) ≤ (m : Int) from by (try simp only [BS] at I); omega) (show (m : Int) < (((s : List UInt8).length : Nat) : Int) from by (try simp only [BS] at I); omega))) trivial) rfl fun _ => ?_
       refine wk_if 2 6 (v := ((decide ((m : Int) < (s.length : Int))) && (((s.getD m 0).toNat : Int) != 10))) rfl rfl rfl rfl (fun Z => ?_) (fun Z => ?_)
       ·
        try simp only [BS] at Z
        refine wR 2 [] 31 32 [3] [(3, (iI ((m : Int) + 1)))] (vA (vi (n := (m : Int) + 1) (by omega)) trivial) rfl fun _ => ?_
        refine ae _ _ _ ?_ ⟨m + 1, rfl, (agC rfl (agC rfl (agC rfl (agC rfl (agC rfl (agC rfl agN)))))), rfl, (by first | assumption | omega | (simp at *; omega)), (by exact spT (by omega) (fun h => by have := u8e 10 h; omega) O), (by first | assumption | omega | (simp at *; omega))⟩
        omega
       ·
        try simp only [BS] at Z
        have gm : n < m := by
         rcases Nat.lt_or_ge n m with h | h
         ·
          exact h
         ·
          exfalso; have e : m = n := by omega
          subst e; omega
        refine J _ _ _ ?_ ⟨m, rfl, (agC rfl (agC rfl agN)), rfl, (by first | assumption | omega | (simp at *; omega)), (by first | exact spA (by omega) (.inl (u8i (k := 32) (by omega) (by omega))) z | exact spA (by omega) (.inr (.inl (u8i (k := 9) (by omega) (by omega)))) z | exact spA (by omega) (.inr (.inr (.inl (u8i (k := 10) (by omega) (by omega))))) z | exact spA (by omega) (.inr (.inr (.inr (u8i (k := 13) (by omega) (by omega))))) z | exact spN I (fun h => (u8i (k := 10) (by omega) (by omega))) O)⟩
        omega
      ·
       try simp only [BS] at Y
       refine wR 1 [] 2 2 [11] [(2, (iI (n : Int)))] trivial rfl fun _ => ?_
       refine wk_ret ⟨.inr rfl, _, rfl, n, rfl, rfl, (by first | exact spX (by omega) (by rintro (h | h | h | h) <;> (first | (have := u8e 32 h; omega) | (have := u8e 9 h; omega) | (have := u8e 10 h; omega) | (have := u8e 13 h; omega))) (fun h => by have := u8e 35 h; omega) z | exact spE (by omega) h1 z)⟩
 ·
  try simp only [BS] at c5
  refine wR 1 [] 2 2 [33] [(2, (iI (n : Int)))] trivial rfl fun _ => ?_
  refine wk_ret ⟨.inr rfl, _, rfl, n, rfl, rfl, (by first | exact spX (by omega) (by rintro (h | h | h | h) <;> (first | (have := u8e 32 h; omega) | (have := u8e 9 h; omega) | (have := u8e 10 h; omega) | (have := u8e 13 h; omega))) (fun h => by have := u8e 35 h; omega) z | exact spE (by omega) h1 z)⟩
def firstK (s : List UInt8) : Int × List UInt8 × Int :=
 if wordLen s = 0 then (if symLen s = 0 then (0, [], 2) else (3, s.take (symLen s), 0))
 else if isDigB (s.getD 0 0) = true then (if validNum (s.take (wordLen s)) = true then (2, s.take (wordLen s), 0) else (0, [], 2))
 else if 16 < wordLen s then (0, [], 6) else (1, s.take (wordLen s), 0)
theorem symLen_le {s : List UInt8} (A : 0 < s.length) : symLen s ≤ s.length := by
 have z : ∀ {w : List UInt8} {n : Nat}, s.take n = w → w.length = n → n ≤ s.length := by
  intro w n e hw
  have := congrArg List.length e
  rw [List.length_take] at this; omega
 rw [symLen]; split
 ·
  exact z ‹_› rfl
 ·
  split
  ·
   rename_i h; rcases h with h | h | h | h | h | h <;> exact z h rfl
  ·
   split <;> omega
theorem first_c (ex : FuncId) (s : List UInt8) {F : Fz} {H : Heap} {R : List Fp} (hs : HS (.of H []) F H [] R) (h0 : 0 < s.length) (hl : s.length < 4611686018427387904) : C Try.prog 0 (KX ex) 36 [(.string ⟨⟨s⟩⟩)] H fun v H' => ∃ (t : Token) (e : Int) (F' : Fz), Fz.le F F' ∧ HS (.of H []) F' H' [] R ∧ v = .tuple ⟨[.agg ⟨[.int .i64 t.kind, .string ⟨⟨t.text.b⟩⟩, .int .i64 t.at_]⟩, .int .i64 e]⟩ ∧ in64 t.kind ∧ in64 t.at_ ∧ t = Token.mk (firstK s).1 (Str.mk (firstK s).2.1) 0 ∧ e = (firstK s).2.2 := by
 have hw := wordLen_le s
 have hy := symLen_le h0
 refine c_enter Try.func36 rfl rfl ?_
 refine wk_foc 1 rfl ?_
 refine wk_region ?_
 refine wo_rs (rs_new hs rfl) rfl rfl ?_
 rintro _ Y _ ⟨Z, rfl, z, _⟩
 have z : HS _ _ _ [[(Z, .cells [(iI 0), (.string ⟨⟨[]⟩⟩), (iI 0)] none false)]] _ := z
 refine wa (iI 0) rfl rfl rfl ?_
 refine wo_end 2 rfl ?_
 refine wR 4 [(1, .o (iI ((wordLen s : Nat) : Int)))] 5 6 [4] [(4, (iI ((wordLen s : Nat) : Int)))] (vA (wordLen_c_q ex s Y (by first | omega | (dsimp only; omega) | (rw [List.length_take]; omega))) trivial) rfl fun _ => ?_
 refine wR 1 [] 7 9 [] [(7, (.bool (((wordLen s : Nat) : Int) == 0)))] trivial rfl fun _ => ?_
 refine wk_if 2 1 (v := (((wordLen s : Nat) : Int) == 0)) rfl rfl rfl rfl (fun c5 => ?_) (fun c5 => ?_)
 ·
  try simp only [BS] at c5
  have z0 : wordLen s = 0 := by omega
  refine wR 2 [(1, .o (iI ((symLen s : Nat) : Int)))] 10 11 [4] [(4, (iI ((symLen s : Nat) : Int)))] (vA (symLen_c_q ex s Y (by first | omega | (dsimp only; omega) | (rw [List.length_take]; omega))) trivial) rfl fun _ => ?_
  refine wR 1 [] 12 13 [] [(13, (.bool (((symLen s : Nat) : Int) == 0)))] trivial rfl fun _ => ?_
  refine wk_if 1 2 (v := (((symLen s : Nat) : Int) == 0)) rfl rfl rfl rfl (fun c8 => ?_) (fun c8 => ?_)
  ·
   try simp only [BS] at c8
   have z1 : symLen s = 0 := by omega
   refine wk_region ?_
   refine wRo 1 0 [] 14 14 [] [(14, (.agg ⟨[(iI 0), (.string ⟨⟨[]⟩⟩), (iI 0)]⟩))] trivial rfl fun _ => ?_
   refine wo_rk (rs_rec (q := 0) z rfl rfl rfl rfl rfl rfl rfl rfl rfl) rfl ?_
   rintro _ ak _ ⟨A, _⟩
   have A : HS _ _ _ [_] _ := A
   refine wa (iI 2) rfl rfl rfl ?_
   refine wo_end 1 rfl ?_
   refine wk_ret ⟨.inr rfl, _, (rC rfl (ldVN rfl rfl (HS.hc A (i := 0) rfl) rfl) (rT rfl rN)), (⟨0, ⟨[]⟩, 0⟩ : Token), 2, _, fR, (HS.forget A), rfl, (by first | omega | (dsimp only; omega) | (rw [List.length_take]; omega)), (by first | omega | (dsimp only; omega) | (rw [List.length_take]; omega)), (by simp only [firstK, *, ↓reduceIte, Bool.false_eq_true, not_false_eq_true]), (by simp only [firstK, *, ↓reduceIte, Bool.false_eq_true, not_false_eq_true])⟩
  ·
   try simp only [BS] at c8
   have z1 : ¬ symLen s = 0 := by omega
   refine wk_region ?_
   refine wRo 4 0 [] 15 18 [] [(18, (.agg ⟨[(iI 3), (.string ⟨⟨s.take (symLen s)⟩⟩), (iI 0)]⟩))] (vA (vA (show (0 : Int) ≤ ((symLen s : Nat) : Int) from by first | omega | (dsimp only; omega) | (rw [List.length_take]; omega)) (show ((symLen s : Nat) : Int) ≤ (((s : List UInt8).length : Nat) : Int) from by first | omega | (dsimp only; omega) | (rw [List.length_take]; omega))) trivial) rfl fun _ => ?_
   refine wo_rk (rs_rec (q := 0) z rfl rfl rfl rfl rfl rfl rfl rfl rfl) rfl ?_
   rintro _ al _ ⟨E, _⟩
   have E : HS _ _ _ [[(Z, .cells [(iI 3), (.string ⟨⟨s.take (symLen s)⟩⟩), (iI 0)] none false)]] _ := E
   refine wa (iI 0) rfl rfl rfl ?_
   refine wo_end 1 rfl ?_
   refine wk_ret ⟨.inr rfl, _, (rC rfl (ldVN rfl rfl (HS.hc E (i := 0) rfl) rfl) (rT rfl rN)), (⟨3, ⟨s.take (symLen s)⟩, 0⟩ : Token), 0, _, fR, (HS.forget E), rfl, (by first | omega | (dsimp only; omega) | (rw [List.length_take]; omega)), (by first | omega | (dsimp only; omega) | (rw [List.length_take]; omega)), (by simp only [firstK, *, ↓reduceIte, Bool.false_eq_true, not_false_eq_true]), (by simp only [firstK, *, ↓reduceIte, Bool.false_eq_true, not_false_eq_true])⟩
 ·
  try simp only [BS] at c5
  have z0 : ¬ wordLen s = 0 := by omega
  have ab := u8_lt (s.getD 0 0)
  refine wR 1 [(2, .o (.bool (isDigB (s.getD 0 0))))] 19 22 [] [(19, (.bool (isDigB (s.getD 0 0))))] (vA (vA (show (0 : Int) ≤ 0 from by first | omega | (dsimp only; omega) | (rw [List.length_take]; omega)) (show (0 : Int) < (((s : List UInt8).length : Nat) : Int) from by first | omega | (dsimp only; omega) | (rw [List.length_take]; omega))) (vA (isDigit_c_q ex (s.getD 0 0) Y) trivial)) rfl fun _ => ?_
  refine wk_if 2 1 (v := (isDigB (s.getD 0 0))) rfl rfl rfl rfl (fun T => ?_) (fun T => ?_)
  ·
   try simp only [BS] at T
   have z2 : isDigB (s.getD 0 0) = true := T
   refine wR 1 [(3, .o (.bool (validNum (s.take (wordLen s)))))] 23 27 [] [(27, (.bool (!(validNum (s.take (wordLen s))))))] (vA (vA (show (0 : Int) ≤ ((wordLen s : Nat) : Int) from by first | omega | (dsimp only; omega) | (rw [List.length_take]; omega)) (show ((wordLen s : Nat) : Int) ≤ (((s : List UInt8).length : Nat) : Int) from by first | omega | (dsimp only; omega) | (rw [List.length_take]; omega))) (vA (validNum_c_q ex (s.take (wordLen s)) Y (by first | omega | (dsimp only; omega) | (rw [List.length_take]; omega)) (by first | omega | (dsimp only; omega) | (rw [List.length_take]; omega))) trivial)) rfl fun _ => ?_
   refine wk_if 1 2 (v := (!(validNum (s.take (wordLen s))))) rfl rfl rfl rfl (fun U => ?_) (fun U => ?_)
   ·
    try simp only [BS] at U
    have z3 : validNum (s.take (wordLen s)) = false := by simpa using U
    refine wk_region ?_
    refine wRo 1 0 [] 28 28 [] [(28, (.agg ⟨[(iI 0), (.string ⟨⟨[]⟩⟩), (iI 0)]⟩))] trivial rfl fun _ => ?_
    refine wo_rk (rs_rec (q := 0) z rfl rfl rfl rfl rfl rfl rfl rfl rfl) rfl ?_
    rintro _ am _ ⟨I, _⟩
    have I : HS _ _ _ [_] _ := I
    refine wa (iI 2) rfl rfl rfl ?_
    refine wo_end 1 rfl ?_
    refine wk_ret ⟨.inr rfl, _, (rC rfl (ldVN rfl rfl (HS.hc I (i := 0) rfl) rfl) (rT rfl rN)), (⟨0, ⟨[]⟩, 0⟩ : Token), 2, _, fR, (HS.forget I), rfl, (by first | omega | (dsimp only; omega) | (rw [List.length_take]; omega)), (by first | omega | (dsimp only; omega) | (rw [List.length_take]; omega)), (by simp only [firstK, *, ↓reduceIte, Bool.false_eq_true, not_false_eq_true]), (by simp only [firstK, *, ↓reduceIte, Bool.false_eq_true, not_false_eq_true])⟩
   ·
    try simp only [BS] at U
    have z3 : validNum (s.take (wordLen s)) = true := by simpa using U
    refine wk_region ?_
    refine wRo 4 0 [] 29 32 [] [(32, (.agg ⟨[(iI 2), (.string ⟨⟨s.take (wordLen s)⟩⟩), (iI 0)]⟩))] (vA (vA (show (0 : Int) ≤ ((wordLen s : Nat) : Int) from by first | omega | (dsimp only; omega) | (rw [List.length_take]; omega)) (show ((wordLen s : Nat) : Int) ≤ (((s : List UInt8).length : Nat) : Int) from by first | omega | (dsimp only; omega) | (rw [List.length_take]; omega))) trivial) rfl fun _ => ?_
    refine wo_rk (rs_rec (q := 0) z rfl rfl rfl rfl rfl rfl rfl rfl rfl) rfl ?_
    rintro _ an _ ⟨J, _⟩
    have J : HS _ _ _ [[(Z, .cells [(iI 2), (.string ⟨⟨s.take (wordLen s)⟩⟩), (iI 0)] none false)]] _ := J
    refine wa (iI 0) rfl rfl rfl ?_
    refine wo_end 1 rfl ?_
    refine wk_ret ⟨.inr rfl, _, (rC rfl (ldVN rfl rfl (HS.hc J (i := 0) rfl) rfl) (rT rfl rN)), (⟨2, ⟨s.take (wordLen s)⟩, 0⟩ : Token), 0, _, fR, (HS.forget J), rfl, (by first | omega | (dsimp only; omega) | (rw [List.length_take]; omega)), (by first | omega | (dsimp only; omega) | (rw [List.length_take]; omega)), (by simp only [firstK, *, ↓reduceIte, Bool.false_eq_true, not_false_eq_true]), (by simp only [firstK, *, ↓reduceIte, Bool.false_eq_true, not_false_eq_true])⟩
  ·
   try simp only [BS] at T
   have z2 : isDigB (s.getD 0 0) = false := T
   refine wR 1 [] 33 35 [] [(33, (.bool (decide ((16 : Int) < ((wordLen s : Nat) : Int)))))] trivial rfl fun _ => ?_
   refine wk_if 1 3 (v := (decide ((16 : Int) < ((wordLen s : Nat) : Int)))) rfl rfl rfl rfl (fun V => ?_) (fun V => ?_)
   ·
    try simp only [BS] at V
    have z4 : 16 < wordLen s := by omega
    refine wk_region ?_
    refine wRo 1 0 [] 36 36 [] [(36, (.agg ⟨[(iI 0), (.string ⟨⟨[]⟩⟩), (iI 0)]⟩))] trivial rfl fun _ => ?_
    refine wo_rk (rs_rec (q := 0) z rfl rfl rfl rfl rfl rfl rfl rfl rfl) rfl ?_
    rintro _ ao _ ⟨N, _⟩
    have N : HS _ _ _ [_] _ := N
    refine wa (iI 6) rfl rfl rfl ?_
    refine wo_end 1 rfl ?_
    refine wk_ret ⟨.inr rfl, _, (rC rfl (ldVN rfl rfl (HS.hc N (i := 0) rfl) rfl) (rT rfl rN)), (⟨0, ⟨[]⟩, 0⟩ : Token), 6, _, fR, (HS.forget N), rfl, (by first | omega | (dsimp only; omega) | (rw [List.length_take]; omega)), (by first | omega | (dsimp only; omega) | (rw [List.length_take]; omega)), (by simp only [firstK, *, ↓reduceIte, Bool.false_eq_true, not_false_eq_true]), (by simp only [firstK, *, ↓reduceIte, Bool.false_eq_true, not_false_eq_true])⟩
   ·
    try simp only [BS] at V
    have z4 : ¬ 16 < wordLen s := by omega
    refine wk_region ?_
    refine wRo 4 0 [] 37 40 [] [(40, (.agg ⟨[(iI 1), (.string ⟨⟨s.take (wordLen s)⟩⟩), (iI 0)]⟩))] (vA (vA (show (0 : Int) ≤ ((wordLen s : Nat) : Int) from by first | omega | (dsimp only; omega) | (rw [List.length_take]; omega)) (show ((wordLen s : Nat) : Int) ≤ (((s : List UInt8).length : Nat) : Int) from by first | omega | (dsimp only; omega) | (rw [List.length_take]; omega))) trivial) rfl fun _ => ?_
    refine wo_rk (rs_rec (q := 0) z rfl rfl rfl rfl rfl rfl rfl rfl rfl) rfl ?_
    rintro _ ap _ ⟨O, _⟩
    have O : HS _ _ _ [[(Z, .cells [(iI 1), (.string ⟨⟨s.take (wordLen s)⟩⟩), (iI 0)] none false)]] _ := O
    refine wa (iI 0) rfl rfl rfl ?_
    refine wo_end 1 rfl ?_
    refine wk_ret ⟨.inr rfl, _, (rC rfl (ldVN rfl rfl (HS.hc O (i := 0) rfl) rfl) (rT rfl rN)), (⟨1, ⟨s.take (wordLen s)⟩, 0⟩ : Token), 0, _, fR, (HS.forget O), rfl, (by first | omega | (dsimp only; omega) | (rw [List.length_take]; omega)), (by first | omega | (dsimp only; omega) | (rw [List.length_take]; omega)), (by simp only [firstK, *, ↓reduceIte, Bool.false_eq_true, not_false_eq_true]), (by simp only [firstK, *, ↓reduceIte, Bool.false_eq_true, not_false_eq_true])⟩
abbrev Sc := List Token × Int × Int
def consT (t : Token) (r : Sc) : Sc := if r.2.1 = 0 then (t :: r.1, r.2) else r
def preT (l : List Token) (r : Sc) : Sc := if r.2.1 = 0 then (l ++ r.1, r.2) else r
def scanN : Nat → List UInt8 → Nat → Sc
 | 0, _, _ => ([], 0, 0)
 | f + 1, s, at_ =>
  if at_ < s.length then
   if (firstK (s.drop at_)).2.2 = 0 then
    consT ⟨(firstK (s.drop at_)).1, ⟨(firstK (s.drop at_)).2.1⟩, at_⟩ (scanN f s (at_ + (firstK (s.drop at_)).2.1.length + spl false (s.drop (at_ + (firstK (s.drop at_)).2.1.length))))
   else ([], (firstK (s.drop at_)).2.2, at_)
  else ([], 0, 0)
def scanS (s : List UInt8) : Sc := if 20000 < s.length then ([], 6, 20000) else scanN (s.length + 1) s (spl false s)
def pickV (n m : Int) : Int := bif decide (Int.tmod n m < 0) then Int.tmod n m + m else Int.tmod n m
end Go.Proofs.Ytgjpflldlegmjaa.l1
