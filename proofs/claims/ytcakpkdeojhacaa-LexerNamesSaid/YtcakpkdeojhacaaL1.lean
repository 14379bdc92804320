/-
  The lexer of the program, function by function, each by a symbolic run. No condition but that a text is not longer than a machine holds.
-/
import Derived.Test.YtcakpkdeojhacaaRxN
import Derived.Test.YtcakpkdeojhacaaRxArg
import Derived.Test.YtcakpkdeojhacaaRxE
import Derived.Test.YtcakpkdeojhacaaChecked
noncomputable section
namespace Go.Proofs.Ytcakpkdeojhacaa.l1
open Go.R
set_option maxRecDepth 10000
set_option linter.unusedVariables false
structure Token where
  kind : Int
  text : Str
  at_ : Int
  deriving Inhabited
instance : Rp Token where
  sz := 3
  rep F cs x := cs = [.int .i64 x.kind, .string ⟨⟨x.text.b⟩⟩, .int .i64 x.at_] ∧ in64 x.kind ∧ in64 x.at_
  len := by rintro F cs x ⟨rfl, _⟩; rfl
  one := by rintro F cs x ⟨rfl, _⟩; rfl
  mono := by intro F F' cs x _ h; exact h

structure ErrT where
  why : Int
  at_ : Int
  deriving Inhabited
instance : Rp ErrT where
  sz := 2
  rep F cs x := cs = [.int .i64 x.why, .int .i64 x.at_] ∧ in64 x.why ∧ in64 x.at_
  len := by rintro F cs x ⟨rfl, _⟩; rfl
  one := by rintro F cs x ⟨rfl, _⟩; rfl
  mono := by intro F F' cs x _ h; exact h

def isLetB (c : UInt8) : Bool := decide (97 ≤ c.toNat) && decide (c.toNat ≤ 122) || decide (65 ≤ c.toNat) && decide (c.toNat ≤ 90) || c.toNat == 95
def isDigB (c : UInt8) : Bool := decide (48 ≤ c.toNat) && decide (c.toNat ≤ 57)
def isWordB (c : UInt8) : Bool := isLetB c || isDigB c
def wordLen (s : List UInt8) : Nat := (s.takeWhile isWordB).length
theorem takeWhile_at {p : UInt8 → Bool} : ∀ {s : List UInt8} {n : Nat}, n ≤ s.length → (s.take n).all p = true → (n < s.length → p (s.getD n 0) = false) → n = (s.takeWhile p).length
  | [], n, h, _, _ => by simp at h; simp [h]
  | c :: s, 0, _, _, h3 => by
    have := h3 (by simp)
    simp only [List.getD_cons_zero] at this
    rw [List.takeWhile_cons, this]; rfl
  | c :: s, n + 1, h, h2, h3 => by
    simp only [List.take_succ_cons, List.all_cons, Bool.and_eq_true] at h2
    rw [List.takeWhile_cons, h2.1]
    have := takeWhile_at (p := p) (s := s) (n := n) (by simpa using h) h2.2 (fun hn => by have := h3 (by simpa using hn); simpa using this)
    simp [← this]
theorem wordLen_le (s : List UInt8) : wordLen s ≤ s.length := (List.takeWhile_prefix _).length_le
def blankB (c : UInt8) : Bool := c == 32 || c == 9 || c == 10 || c == 13
def isDigAll (s : List UInt8) : Bool := s.all isDigB
def most19 : List UInt8 := [57, 50, 50, 51, 51, 55, 50, 48, 51, 54, 56, 53, 52, 55, 55, 53, 56, 48, 56]
def validNum (s : List UInt8) : Bool := s.all isDigB && ((s.getD 0 0 != 48 || s.length == 1) && (decide (s.length < 19) || s.length == 19 && (Op.bytesLess s most19 || s == most19)))
theorem vn1 {s : List UInt8} {i : Nat} (h : i < s.length) (c : isDigB (s.getD i 0) = false) : false = validNum s := by
  have : s.all isDigB = false := by
    rw [List.all_eq_false]
    refine ⟨s.getD i 0, ?_, by simpa using c⟩
    rw [List.getD_eq_getElem?_getD, List.getElem?_eq_getElem h]
    exact List.getElem_mem h
  simp [validNum, this]
theorem all_of_take {p : UInt8 → Bool} {s : List UInt8} {i : Nat} (h : s.length ≤ i) (h2 : (s.take i).all p = true) : s.all p = true := by rwa [List.take_of_length_le h] at h2
theorem nat_beq48 (c : UInt8) : (((c.toNat : Int) != 48)) = (c != 48) := by
  by_cases h : c = 48
  · subst h; rfl
  · have : c.toNat ≠ 48 := fun e => h (UInt8.toNat_inj.mp (by rw [e]; rfl))
    have h1 : ((c.toNat : Int) != 48) = true := by simp; omega
    rw [h1, eq_comm]; simpa using h
theorem int_beq (a : Nat) (b : Nat) : ((a : Int) == (b : Int)) = (a == b) := by
  rw [Bool.eq_iff_iff]; simp; omega
theorem vn2 {s : List UInt8} (h : s.all isDigB = true) : (((((s.getD 0 0).toNat : Int) != 48) || ((s.length : Int) == 1)) && ((decide ((s.length : Int) < 19)) || (((s.length : Int) == 19) && (Op.bytesLess s most19 || s == most19)))) = validNum s := by
  rw [validNum, h, nat_beq48, show ((s.length : Int) == 1) = (s.length == 1) from int_beq _ 1, show ((s.length : Int) == 19) = (s.length == 19) from int_beq _ 19, Bool.true_and]
  rw [show decide ((s.length : Int) < 19) = decide (s.length < 19) from decide_eq_decide.mpr (by omega)]
def singles : List UInt8 := [43, 45, 42, 47, 37, 38, 124, 94, 126, 33, 60, 62, 61, 63, 58, 59, 44, 40, 41, 123, 125, 91, 93]
def symLen (s : List UInt8) : Nat :=
  if s.take 3 = [62, 62, 62] then 3
  else if s.take 2 = [60, 60] ∨ s.take 2 = [62, 62] ∨ s.take 2 = [60, 61] ∨ s.take 2 = [62, 61] ∨ s.take 2 = [61, 61] ∨ s.take 2 = [33, 61] then 2
  else if s.getD 0 0 ∈ singles then 1 else 0
theorem tk3 {s : List UInt8} {a b c : UInt8} (h : (3 : Int) ≤ s.length → s.take 3 ≠ [a, b, c]) : ¬ s.take 3 = [a, b, c] := by
  intro e
  refine h ?_ e
  have := congrArg List.length e
  rw [List.length_take] at this
  simp only [List.length_cons, List.length_nil] at this
  omega
theorem tk2 {s : List UInt8} {a b : UInt8} (h : (2 : Int) ≤ s.length → s.take 2 ≠ [a, b]) : ¬ s.take 2 = [a, b] := by
  intro e
  refine h ?_ e
  have := congrArg List.length e
  rw [List.length_take] at this
  simp only [List.length_cons, List.length_nil] at this
  omega
theorem sing_mem {c : UInt8} {i : Nat} (h : i < 23) (e : ((c.toNat : Int)) = ((singles.getD i 0).toNat : Int)) : c ∈ singles := by
  have : c = singles.getD i 0 := UInt8.toNat_inj.mp (by exact_mod_cast e)
  rw [this, List.getD_eq_getElem?_getD, List.getElem?_eq_getElem (show i < singles.length from h)]
  exact List.getElem_mem _
theorem sing_ne {c : UInt8} {i j : Nat} (e : ((c.toNat : Int)) ≠ ((singles.getD i 0).toNat : Int)) (h2 : ∀ j, j < i → c ≠ singles.getD j 0) (h : j < i + 1) : c ≠ singles.getD j 0 := by
  rcases Nat.lt_succ_iff_lt_or_eq.mp h with h | h
  · exact h2 j h
  · subst h; intro he; exact e (by rw [he])
theorem sing_no {c : UInt8} (h2 : ∀ j, j < 23 → c ≠ singles.getD j 0) : c ∉ singles := by
  intro h
  obtain ⟨j, hj, e⟩ := List.getElem_of_mem h
  refine h2 j hj ?_
  rw [List.getD_eq_getElem?_getD, List.getElem?_eq_getElem hj]; exact e.symm

theorem isLetter_c (ex : FuncId) (c : UInt8) (H : Heap) : C Try.prog 0 (KX ex) 67 [(.int .u8 (c.toNat : Int))] H fun v H' => ∃ (r : Bool), H' = H ∧ v = .bool r ∧ r = isLetB c := by
  refine c_enter Try.func67 rfl rfl ?_
  refine wk_seq ?_
  refine wk_region ?_
  refine wa (.bool false) rfl rfl rfl ?_
  refine wo_nil ?_
  refine wk_skip_seq ?_
  refine wk_seq ?_
  refine wk_rcut 2 20 [] [(2, (.bool ((((decide ((97 : Int) ≤ (c.toNat : Int))) && (decide ((c.toNat : Int) ≤ 122))) || ((decide ((65 : Int) ≤ (c.toNat : Int))) && (decide ((c.toNat : Int) ≤ 90)))) || ((c.toNat : Int) == 95))))] (fun H' => H' = H) ?_ ?_
  · skip
    refine wk_region ?_
    refine wm (.int .u8 (c.toNat : Int)) rfl rfl rfl ?_
    refine wo_val (v := (.bool (decide ((97 : Int) ≤ (c.toNat : Int))))) (ap_cmp rfl rfl rfl rfl) rfl rfl ?_
    refine wm (.bool (decide ((97 : Int) ≤ (c.toNat : Int)))) rfl rfl rfl ?_
    refine wo_gsT (v := (decide ((97 : Int) ≤ (c.toNat : Int)))) rfl rfl (fun g2 => ?_) (fun g2 => ?_)
    · have pg2 := g2
      try simp only [BS] at pg2
      refine wm (.int .u8 (c.toNat : Int)) rfl rfl rfl ?_
      refine wo_gt rfl g2 ?_
      refine wo_val (v := (.bool (decide ((c.toNat : Int) ≤ 122)))) (ap_cmp rfl rfl rfl rfl) rfl rfl ?_
      refine wo_val (v := (.bool (decide ((c.toNat : Int) ≤ 122)))) (ap_pickT rfl g2 rfl) rfl rfl ?_
      refine wm (.bool (decide ((c.toNat : Int) ≤ 122))) rfl rfl rfl ?_
      refine wo_gsF (v := (decide ((c.toNat : Int) ≤ 122))) rfl rfl (fun g3 => ?_) (fun g3 => ?_)
      · have pg3 := g3
        try simp only [BS] at pg3
        refine wm (.int .u8 (c.toNat : Int)) rfl rfl rfl ?_
        refine wo_gt rfl g3 ?_
        refine wo_val (v := (.bool (decide ((65 : Int) ≤ (c.toNat : Int))))) (ap_cmp rfl rfl rfl rfl) rfl rfl ?_
        refine wo_gt rfl g3 ?_
        refine wm (.bool (decide ((65 : Int) ≤ (c.toNat : Int)))) rfl rfl rfl ?_
        refine wo_gsT (v := (decide ((65 : Int) ≤ (c.toNat : Int)))) rfl rfl (fun g4 => ?_) (fun g4 => ?_)
        · have pg4 := g4
          try simp only [BS] at pg4
          refine wm (.int .u8 (c.toNat : Int)) rfl rfl rfl ?_
          refine wo_gt rfl g4 ?_
          refine wo_val (v := (.bool (decide ((c.toNat : Int) ≤ 90)))) (ap_cmp rfl rfl rfl rfl) rfl rfl ?_
          refine wo_gt rfl g3 ?_
          refine wo_val (v := (.bool (decide ((c.toNat : Int) ≤ 90)))) (ap_pickT rfl g4 rfl) rfl rfl ?_
          refine wo_val (v := (.bool (decide ((c.toNat : Int) ≤ 90)))) (ap_pickF rfl g3 rfl) rfl rfl ?_
          refine wm (.bool (decide ((c.toNat : Int) ≤ 90))) rfl rfl rfl ?_
          refine wo_gsF (v := (decide ((c.toNat : Int) ≤ 90))) rfl rfl (fun g5 => ?_) (fun g5 => ?_)
          · have pg5 := g5
            try simp only [BS] at pg5
            refine wm (.int .u8 (c.toNat : Int)) rfl rfl rfl ?_
            refine wo_gt rfl g5 ?_
            refine wo_val (v := (.bool ((c.toNat : Int) == 95))) (ap_cmp rfl rfl rfl rfl) rfl rfl ?_
            refine wo_val (v := (.bool ((c.toNat : Int) == 95))) (ap_pickF rfl g5 rfl) rfl rfl ?_
            refine wa (.bool ((c.toNat : Int) == 95)) rfl rfl rfl ?_
            refine wo_nil ?_
            exact wk_skip_nil ⟨rfl, rfl, (Lu rfl (Lu rfl (Lu rfl (Lu rfl (Lu rfl (Lu rfl (Lu rfl (Lu rfl (Lu rfl (Lu rfl (Lu rfl (Lu rfl (Lu rfl (Lu rfl (Lu rfl (Lu rfl (Lu rfl (Lu rfl (Lu rfl Lr))))))))))))))))))), (agC (congrArg Value.bool (show ((c.toNat : Int) == 95) = ((((decide ((97 : Int) ≤ (c.toNat : Int))) && (decide ((c.toNat : Int) ≤ 122))) || ((decide ((65 : Int) ≤ (c.toNat : Int))) && (decide ((c.toNat : Int) ≤ 90)))) || ((c.toNat : Int) == 95)) by first | rfl | simp only [↓g2, ↓g3, ↓g4, ↓g5, BT] | grind)) agN)⟩
          · have pg5 := g5
            try simp only [BS] at pg5
            refine wo_gf0 rfl g5 rfl ?_
            refine wo_val (v := (.bool true)) (ap_pickT rfl g5 rfl) rfl rfl ?_
            refine wa (.bool true) rfl rfl rfl ?_
            refine wo_nil ?_
            exact wk_skip_nil ⟨rfl, rfl, (Lu rfl (Lu rfl (Lu rfl (Lu rfl (Lu rfl (Lu rfl (Lu rfl (Lu rfl (Lu rfl (Lu rfl (Lu rfl (Lu rfl (Lu rfl (Lu rfl (Lu rfl (Lu rfl (Lu rfl (Lu rfl (Lu rfl Lr))))))))))))))))))), (agC (congrArg Value.bool (show true = ((((decide ((97 : Int) ≤ (c.toNat : Int))) && (decide ((c.toNat : Int) ≤ 122))) || ((decide ((65 : Int) ≤ (c.toNat : Int))) && (decide ((c.toNat : Int) ≤ 90)))) || ((c.toNat : Int) == 95)) by first | rfl | simp only [↓g2, ↓g3, ↓g4, ↓g5, BT] | grind)) agN)⟩
        · have pg4 := g4
          try simp only [BS] at pg4
          refine wo_gf1 rfl g4 rfl ?_
          refine wo_gt rfl g3 ?_
          refine wo_val (v := (.bool false)) (ap_pickF rfl g4 rfl) rfl rfl ?_
          refine wo_val (v := (.bool false)) (ap_pickF rfl g3 rfl) rfl rfl ?_
          refine wm (.bool false) rfl rfl rfl ?_
          refine wo_gt rfl rfl ?_
          refine wm (.int .u8 (c.toNat : Int)) rfl rfl rfl ?_
          refine wo_gt rfl rfl ?_
          refine wo_val (v := (.bool ((c.toNat : Int) == 95))) (ap_cmp rfl rfl rfl rfl) rfl rfl ?_
          refine wo_val (v := (.bool ((c.toNat : Int) == 95))) (ap_pickF rfl rfl rfl) rfl rfl ?_
          refine wa (.bool ((c.toNat : Int) == 95)) rfl rfl rfl ?_
          refine wo_nil ?_
          exact wk_skip_nil ⟨rfl, rfl, (Lu rfl (Lu rfl (Lu rfl (Lu rfl (Lu rfl (Lu rfl (Lu rfl (Lu rfl (Lu rfl (Lu rfl (Lu rfl (Lu rfl (Lu rfl (Lu rfl (Lu rfl (Lu rfl (Lu rfl (Lu rfl (Lu rfl Lr))))))))))))))))))), (agC (congrArg Value.bool (show ((c.toNat : Int) == 95) = ((((decide ((97 : Int) ≤ (c.toNat : Int))) && (decide ((c.toNat : Int) ≤ 122))) || ((decide ((65 : Int) ≤ (c.toNat : Int))) && (decide ((c.toNat : Int) ≤ 90)))) || ((c.toNat : Int) == 95)) by first | rfl | simp only [↓g2, ↓g3, ↓g4, BT] | grind)) agN)⟩
      · have pg3 := g3
        try simp only [BS] at pg3
        refine wo_gf0 rfl g3 rfl ?_
        refine wo_gf0 rfl g3 rfl ?_
        refine wo_gn rfl rfl ?_
        refine wo_gn rfl rfl ?_
        refine wo_gf0 rfl g3 rfl ?_
        refine wo_val (v := (.bool true)) (ap_pickT rfl g3 rfl) rfl rfl ?_
        refine wm (.bool true) rfl rfl rfl ?_
        refine wo_gf0 rfl rfl rfl ?_
        refine wo_gf0 rfl rfl rfl ?_
        refine wo_val (v := (.bool true)) (ap_pickT rfl rfl rfl) rfl rfl ?_
        refine wa (.bool true) rfl rfl rfl ?_
        refine wo_nil ?_
        exact wk_skip_nil ⟨rfl, rfl, (Lu rfl (Lu rfl (Lu rfl (Lu rfl (Lu rfl (Lu rfl (Lu rfl (Lu rfl (Lu rfl (Lu rfl (Lu rfl (Lu rfl (Lu rfl (Lu rfl (Lu rfl (Lu rfl (Lu rfl (Lu rfl (Lu rfl Lr))))))))))))))))))), (agC (congrArg Value.bool (show true = ((((decide ((97 : Int) ≤ (c.toNat : Int))) && (decide ((c.toNat : Int) ≤ 122))) || ((decide ((65 : Int) ≤ (c.toNat : Int))) && (decide ((c.toNat : Int) ≤ 90)))) || ((c.toNat : Int) == 95)) by first | rfl | simp only [↓g2, ↓g3, BT] | grind)) agN)⟩
    · have pg2 := g2
      try simp only [BS] at pg2
      refine wo_gf1 rfl g2 rfl ?_
      refine wo_val (v := (.bool false)) (ap_pickF rfl g2 rfl) rfl rfl ?_
      refine wm (.bool false) rfl rfl rfl ?_
      refine wo_gt rfl rfl ?_
      refine wm (.int .u8 (c.toNat : Int)) rfl rfl rfl ?_
      refine wo_gt rfl rfl ?_
      refine wo_val (v := (.bool (decide ((65 : Int) ≤ (c.toNat : Int))))) (ap_cmp rfl rfl rfl rfl) rfl rfl ?_
      refine wo_gt rfl rfl ?_
      refine wm (.bool (decide ((65 : Int) ≤ (c.toNat : Int)))) rfl rfl rfl ?_
      refine wo_gsT (v := (decide ((65 : Int) ≤ (c.toNat : Int)))) rfl rfl (fun g6 => ?_) (fun g6 => ?_)
      · have pg6 := g6
        try simp only [BS] at pg6
        refine wm (.int .u8 (c.toNat : Int)) rfl rfl rfl ?_
        refine wo_gt rfl g6 ?_
        refine wo_val (v := (.bool (decide ((c.toNat : Int) ≤ 90)))) (ap_cmp rfl rfl rfl rfl) rfl rfl ?_
        refine wo_gt rfl rfl ?_
        refine wo_val (v := (.bool (decide ((c.toNat : Int) ≤ 90)))) (ap_pickT rfl g6 rfl) rfl rfl ?_
        refine wo_val (v := (.bool (decide ((c.toNat : Int) ≤ 90)))) (ap_pickF rfl rfl rfl) rfl rfl ?_
        refine wm (.bool (decide ((c.toNat : Int) ≤ 90))) rfl rfl rfl ?_
        refine wo_gsF (v := (decide ((c.toNat : Int) ≤ 90))) rfl rfl (fun g7 => ?_) (fun g7 => ?_)
        · have pg7 := g7
          try simp only [BS] at pg7
          refine wm (.int .u8 (c.toNat : Int)) rfl rfl rfl ?_
          refine wo_gt rfl g7 ?_
          refine wo_val (v := (.bool ((c.toNat : Int) == 95))) (ap_cmp rfl rfl rfl rfl) rfl rfl ?_
          refine wo_val (v := (.bool ((c.toNat : Int) == 95))) (ap_pickF rfl g7 rfl) rfl rfl ?_
          refine wa (.bool ((c.toNat : Int) == 95)) rfl rfl rfl ?_
          refine wo_nil ?_
          exact wk_skip_nil ⟨rfl, rfl, (Lu rfl (Lu rfl (Lu rfl (Lu rfl (Lu rfl (Lu rfl (Lu rfl (Lu rfl (Lu rfl (Lu rfl (Lu rfl (Lu rfl (Lu rfl (Lu rfl (Lu rfl (Lu rfl (Lu rfl (Lu rfl (Lu rfl Lr))))))))))))))))))), (agC (congrArg Value.bool (show ((c.toNat : Int) == 95) = ((((decide ((97 : Int) ≤ (c.toNat : Int))) && (decide ((c.toNat : Int) ≤ 122))) || ((decide ((65 : Int) ≤ (c.toNat : Int))) && (decide ((c.toNat : Int) ≤ 90)))) || ((c.toNat : Int) == 95)) by first | rfl | simp only [↓g2, ↓g6, ↓g7, BT] | grind)) agN)⟩
        · have pg7 := g7
          try simp only [BS] at pg7
          refine wo_gf0 rfl g7 rfl ?_
          refine wo_val (v := (.bool true)) (ap_pickT rfl g7 rfl) rfl rfl ?_
          refine wa (.bool true) rfl rfl rfl ?_
          refine wo_nil ?_
          exact wk_skip_nil ⟨rfl, rfl, (Lu rfl (Lu rfl (Lu rfl (Lu rfl (Lu rfl (Lu rfl (Lu rfl (Lu rfl (Lu rfl (Lu rfl (Lu rfl (Lu rfl (Lu rfl (Lu rfl (Lu rfl (Lu rfl (Lu rfl (Lu rfl (Lu rfl Lr))))))))))))))))))), (agC (congrArg Value.bool (show true = ((((decide ((97 : Int) ≤ (c.toNat : Int))) && (decide ((c.toNat : Int) ≤ 122))) || ((decide ((65 : Int) ≤ (c.toNat : Int))) && (decide ((c.toNat : Int) ≤ 90)))) || ((c.toNat : Int) == 95)) by first | rfl | simp only [↓g2, ↓g6, ↓g7, BT] | grind)) agN)⟩
      · have pg6 := g6
        try simp only [BS] at pg6
        refine wo_gf1 rfl g6 rfl ?_
        refine wo_gt rfl rfl ?_
        refine wo_val (v := (.bool false)) (ap_pickF rfl g6 rfl) rfl rfl ?_
        refine wo_val (v := (.bool false)) (ap_pickF rfl rfl rfl) rfl rfl ?_
        refine wm (.bool false) rfl rfl rfl ?_
        refine wo_gt rfl rfl ?_
        refine wm (.int .u8 (c.toNat : Int)) rfl rfl rfl ?_
        refine wo_gt rfl rfl ?_
        refine wo_val (v := (.bool ((c.toNat : Int) == 95))) (ap_cmp rfl rfl rfl rfl) rfl rfl ?_
        refine wo_val (v := (.bool ((c.toNat : Int) == 95))) (ap_pickF rfl rfl rfl) rfl rfl ?_
        refine wa (.bool ((c.toNat : Int) == 95)) rfl rfl rfl ?_
        refine wo_nil ?_
        exact wk_skip_nil ⟨rfl, rfl, (Lu rfl (Lu rfl (Lu rfl (Lu rfl (Lu rfl (Lu rfl (Lu rfl (Lu rfl (Lu rfl (Lu rfl (Lu rfl (Lu rfl (Lu rfl (Lu rfl (Lu rfl (Lu rfl (Lu rfl (Lu rfl (Lu rfl Lr))))))))))))))))))), (agC (congrArg Value.bool (show ((c.toNat : Int) == 95) = ((((decide ((97 : Int) ≤ (c.toNat : Int))) && (decide ((c.toNat : Int) ≤ 122))) || ((decide ((65 : Int) ≤ (c.toNat : Int))) && (decide ((c.toNat : Int) ≤ 90)))) || ((c.toNat : Int) == 95)) by first | rfl | simp only [↓g2, ↓g6, BT] | grind)) agN)⟩
  · skip
    rintro g1 H rfl
    refine wk_skip_seq ?_
    refine wk_ret ⟨.inr rfl, _, rfl, ((((decide ((97 : Int) ≤ (c.toNat : Int))) && (decide ((c.toNat : Int) ≤ 122))) || ((decide ((65 : Int) ≤ (c.toNat : Int))) && (decide ((c.toNat : Int) ≤ 90)))) || ((c.toNat : Int) == 95)), rfl, rfl, (by simp [isLetB]; grind)⟩

theorem isDigit_c (ex : FuncId) (c : UInt8) (H : Heap) : C Try.prog 0 (KX ex) 56 [(.int .u8 (c.toNat : Int))] H fun v H' => ∃ (r : Bool), H' = H ∧ v = .bool r ∧ r = isDigB c := by
  refine c_enter Try.func56 rfl rfl ?_
  refine wk_seq ?_
  refine wk_region ?_
  refine wa (.bool false) rfl rfl rfl ?_
  refine wo_nil ?_
  refine wk_skip_seq ?_
  refine wk_seq ?_
  refine wk_rcut 2 8 [] [(2, (.bool ((decide ((48 : Int) ≤ (c.toNat : Int))) && (decide ((c.toNat : Int) ≤ 57)))))] (fun H' => H' = H) ?_ ?_
  · skip
    refine wk_region ?_
    refine wm (.int .u8 (c.toNat : Int)) rfl rfl rfl ?_
    refine wo_val (v := (.bool (decide ((48 : Int) ≤ (c.toNat : Int))))) (ap_cmp rfl rfl rfl rfl) rfl rfl ?_
    refine wm (.bool (decide ((48 : Int) ≤ (c.toNat : Int)))) rfl rfl rfl ?_
    refine wo_gsT (v := (decide ((48 : Int) ≤ (c.toNat : Int)))) rfl rfl (fun g2 => ?_) (fun g2 => ?_)
    · have pg2 := g2
      try simp only [BS] at pg2
      refine wm (.int .u8 (c.toNat : Int)) rfl rfl rfl ?_
      refine wo_gt rfl g2 ?_
      refine wo_val (v := (.bool (decide ((c.toNat : Int) ≤ 57)))) (ap_cmp rfl rfl rfl rfl) rfl rfl ?_
      refine wo_val (v := (.bool (decide ((c.toNat : Int) ≤ 57)))) (ap_pickT rfl g2 rfl) rfl rfl ?_
      refine wa (.bool (decide ((c.toNat : Int) ≤ 57))) rfl rfl rfl ?_
      refine wo_nil ?_
      exact wk_skip_nil ⟨rfl, rfl, (Lu rfl (Lu rfl (Lu rfl (Lu rfl (Lu rfl (Lu rfl (Lu rfl Lr))))))), (agC (congrArg Value.bool (show (decide ((c.toNat : Int) ≤ 57)) = ((decide ((48 : Int) ≤ (c.toNat : Int))) && (decide ((c.toNat : Int) ≤ 57))) by first | rfl | simp only [↓g2, BT] | grind)) agN)⟩
    · have pg2 := g2
      try simp only [BS] at pg2
      refine wo_gf1 rfl g2 rfl ?_
      refine wo_val (v := (.bool false)) (ap_pickF rfl g2 rfl) rfl rfl ?_
      refine wa (.bool false) rfl rfl rfl ?_
      refine wo_nil ?_
      exact wk_skip_nil ⟨rfl, rfl, (Lu rfl (Lu rfl (Lu rfl (Lu rfl (Lu rfl (Lu rfl (Lu rfl Lr))))))), (agC (congrArg Value.bool (show false = ((decide ((48 : Int) ≤ (c.toNat : Int))) && (decide ((c.toNat : Int) ≤ 57))) by first | rfl | simp only [↓g2, BT] | grind)) agN)⟩
  · skip
    rintro g1 H rfl
    refine wk_skip_seq ?_
    refine wk_ret ⟨.inr rfl, _, rfl, ((decide ((48 : Int) ≤ (c.toNat : Int))) && (decide ((c.toNat : Int) ≤ 57))), rfl, rfl, (by simp [isDigB]; grind)⟩

theorem wordLen_c (ex : FuncId) (s : List UInt8) (H : Heap) (hl : s.length < 4611686018427387904) : C Try.prog 0 (KX ex) 54 [(.string ⟨⟨s⟩⟩)] H fun v H' => ∃ (r : Nat), H' = H ∧ v = .int .i64 (r : Int) ∧ r = wordLen s := by
  refine c_enter Try.func54 rfl rfl ?_
  refine wk_seq ?_
  refine wk_region ?_
  refine wa (.int .i64 0) rfl rfl rfl ?_
  refine wo_nil ?_
  refine wk_skip_seq ?_
  refine wk_seq ?_
  refine wk_region ?_
  refine wa (.int .i64 0) rfl rfl rfl ?_
  refine wo_nil ?_
  refine wk_skip_seq ?_
  refine wk_seq ?_
  refine wk_block ?_
  refine wk_loop_inv (fun (mm : Nat) f H' => ∃ (n : Nat), H' = H ∧ agrees f [(0, (.string ⟨⟨s⟩⟩)), (2, (.int .i64 0)), (3, (.int .i64 (n : Int)))] ∧ mm = s.length - n ∧ (n ≤ s.length) ∧ ((s.take n).all isWordB = true)) _ ⟨0, rfl, (agC rfl (agC rfl (agC rfl agN))), rfl, (by first | assumption | omega | (simp at *; omega)), (by rfl)⟩ ?_
  rintro mm1 f1 H ⟨n, rfl, hf1, rfl, h1, h2⟩ ih1
  refine wk_canon _ hf1 (fun gg1 => ?_)
  clear hf1
  refine wk_seq ?_
  refine wk_seq ?_
  refine wk_rcut 4 19 [] [(19, (.bool ((decide ((n : Int) < (s.length : Int))) && (isLetB (s.getD n 0) || isDigB (s.getD n 0)))))] (fun H' => H' = H) ?_ ?_
  · skip
    refine wk_region ?_
    refine wm (.int .i64 (n : Int)) rfl rfl rfl ?_
    refine wm (.string ⟨⟨s⟩⟩) rfl rfl rfl ?_
    refine wo_val (v := (.int .i64 (s.length : Int))) (ap_lenS rfl rfl) rfl rfl ?_
    refine wo_val (v := (.bool (decide ((n : Int) < (s.length : Int))))) (ap_cmp rfl rfl rfl rfl) rfl rfl ?_
    refine wm (.bool (decide ((n : Int) < (s.length : Int)))) rfl rfl rfl ?_
    refine wo_gsT (v := (decide ((n : Int) < (s.length : Int)))) rfl rfl (fun g5 => ?_) (fun g5 => ?_)
    · have pg5 := g5
      try simp only [BS] at pg5
      refine wm (.string ⟨⟨s⟩⟩) rfl rfl rfl ?_
      refine wo_gt rfl g5 ?_
      refine wm (.int .i64 (n : Int)) rfl rfl rfl ?_
      refine wo_gt rfl g5 ?_
      have u8_6 := u8_lt (s.getD n 0)
      refine wo_val (v := (.int .u8 ((s.getD n 0).toNat : Int))) (ap_idxS (j := (n : Int)) rfl rfl rfl (by omega) (getD_at (by omega))) rfl rfl ?_
      refine wo_gt rfl g5 ?_
      refine wo_call (ap_call rfl rfl rfl) rfl rfl (isLetter_c ex (s.getD n 0) _) ?_
      rintro _ H ⟨r7, rfl, rfl, rfl⟩
      refine wo_gt rfl g5 ?_
      refine wm (.bool (isLetB (s.getD n 0))) rfl rfl rfl ?_
      refine wo_gsF (v := (isLetB (s.getD n 0))) rfl rfl (fun g8 => ?_) (fun g8 => ?_)
      · have pg8 := g8
        try simp only [BS] at pg8
        refine wm (.string ⟨⟨s⟩⟩) rfl rfl rfl ?_
        refine wo_gt rfl g8 ?_
        refine wm (.int .i64 (n : Int)) rfl rfl rfl ?_
        refine wo_gt rfl g8 ?_
        have u8_9 := u8_lt (s.getD n 0)
        refine wo_val (v := (.int .u8 ((s.getD n 0).toNat : Int))) (ap_idxS (j := (n : Int)) rfl rfl rfl (by omega) (getD_at (by omega))) rfl rfl ?_
        refine wo_gt rfl g8 ?_
        refine wo_call (ap_call rfl rfl rfl) rfl rfl (isDigit_c ex (s.getD n 0) _) ?_
        rintro _ H ⟨r10, rfl, rfl, rfl⟩
        refine wo_gt rfl g5 ?_
        refine wo_val (v := (.bool (isDigB (s.getD n 0)))) (ap_pickF rfl g8 rfl) rfl rfl ?_
        refine wo_val (v := (.bool (isDigB (s.getD n 0)))) (ap_pickT rfl g5 rfl) rfl rfl ?_
        refine wo_nil ?_
        exact wk_skip_nil ⟨rfl, rfl, (Lu rfl (Lu rfl (Lu rfl (Lu rfl (Lu rfl (Lu rfl (Lu rfl (Lu rfl (Lu rfl (Lu rfl (Lu rfl (Lu rfl (Lu rfl (Lu rfl (Lu rfl (Lu rfl Lr)))))))))))))))), (agC (congrArg Value.bool (show isDigB (s.getD n 0) = ((decide ((n : Int) < (s.length : Int))) && (isLetB (s.getD n 0) || isDigB (s.getD n 0))) by first | rfl | simp only [↓g5, ↓g8, BT] | grind)) agN)⟩
      · have pg8 := g8
        try simp only [BS] at pg8
        refine wo_gf0 rfl g8 rfl ?_
        refine wo_gf0 rfl g8 rfl ?_
        refine wo_gf0 rfl g8 rfl ?_
        refine wo_gt rfl g5 ?_
        refine wo_val (v := (.bool true)) (ap_pickT rfl g8 rfl) rfl rfl ?_
        refine wo_val (v := (.bool true)) (ap_pickT rfl g5 rfl) rfl rfl ?_
        refine wo_nil ?_
        exact wk_skip_nil ⟨rfl, rfl, (Lu rfl (Lu rfl (Lu rfl (Lu rfl (Lu rfl (Lu rfl (Lu rfl (Lu rfl (Lu rfl (Lu rfl (Lu rfl (Lu rfl (Lu rfl (Lu rfl (Lu rfl (Lu rfl Lr)))))))))))))))), (agC (congrArg Value.bool (show true = ((decide ((n : Int) < (s.length : Int))) && (isLetB (s.getD n 0) || isDigB (s.getD n 0))) by first | rfl | simp only [↓g5, ↓g8, BT] | grind)) agN)⟩
    · have pg5 := g5
      try simp only [BS] at pg5
      refine wo_gf1 rfl g5 rfl ?_
      refine wo_gf1 rfl g5 rfl ?_
      refine wo_gf1 rfl g5 rfl ?_
      refine wo_gf1 rfl g5 rfl ?_
      refine wo_gn rfl rfl ?_
      refine wo_gn rfl rfl ?_
      refine wo_gn rfl rfl ?_
      refine wo_gn rfl rfl ?_
      refine wo_gf1 rfl g5 rfl ?_
      refine wo_val (v := (.bool false)) (ap_pickF rfl g5 rfl) rfl rfl ?_
      refine wo_nil ?_
      exact wk_skip_nil ⟨rfl, rfl, (Lu rfl (Lu rfl (Lu rfl (Lu rfl (Lu rfl (Lu rfl (Lu rfl (Lu rfl (Lu rfl (Lu rfl (Lu rfl (Lu rfl (Lu rfl (Lu rfl (Lu rfl (Lu rfl Lr)))))))))))))))), (agC (congrArg Value.bool (show false = ((decide ((n : Int) < (s.length : Int))) && (isLetB (s.getD n 0) || isDigB (s.getD n 0))) by first | rfl | simp only [↓g5, BT] | grind)) agN)⟩
  · skip
    rintro g4 H rfl
    refine wk_skip_seq ?_
    refine wk_cond (v := ((decide ((n : Int) < (s.length : Int))) && (isLetB (s.getD n 0) || isDigB (s.getD n 0)))) rfl rfl (fun c11b => ?_) (fun c11b => ?_)
    · have c11 := c11b
      try simp only [BS] at c11
      have c := c11
      refine wk_skip_seq ?_
      refine wk_block ?_
      refine wk_region ?_
      refine wm (.int .i64 (n : Int)) rfl rfl rfl ?_
      refine wo_val (v := (.int .i64 ((n : Int) + 1))) (ap_add rfl rfl (w_i64 (n := (n : Int) + 1) (by omega))) rfl rfl ?_
      refine wa (.int .i64 ((n : Int) + 1)) rfl rfl rfl ?_
      refine wo_nil ?_
      refine wk_skip_block ?_
      refine wk_skip_seq ?_
      refine ih1 _ _ _ ?_ ⟨n + 1, rfl, (agC rfl (agC rfl (agC rfl agN))), rfl, (by first | assumption | omega | (simp at *; omega)), (by rw [all_take (by omega), h2, isWordB]; simpa using c.2)⟩
      omega
    · have c11 := c11b
      try simp only [BS] at c11
      have c := c11
      refine wk_exit_seq ?_
      refine wk_exit_seq ?_
      refine wk_exit_block ?_
      refine wk_skip_seq ?_
      refine wk_seq ?_
      refine wk_region ?_
      refine wm (.int .i64 (n : Int)) rfl rfl rfl ?_
      refine wa (.int .i64 (n : Int)) rfl rfl rfl ?_
      refine wo_nil ?_
      refine wk_skip_seq ?_
      refine wk_ret ⟨.inr rfl, _, rfl, n, rfl, rfl, (by exact takeWhile_at h1 h2 (fun hn => by have := c (by omega); rw [isWordB, this.1, this.2]; rfl))⟩

theorem validNum_c (ex : FuncId) (s : List UInt8) (H : Heap) (hl : s.length < 4611686018427387904) (h0 : 0 < s.length) : C Try.prog 0 (KX ex) 57 [(.string ⟨⟨s⟩⟩)] H fun v H' => ∃ (r : Bool), H' = H ∧ v = .bool r ∧ r = validNum s := by
  refine c_enter Try.func57 rfl rfl ?_
  refine wk_seq ?_
  refine wk_region ?_
  refine wa (.bool false) rfl rfl rfl ?_
  refine wo_nil ?_
  refine wk_skip_seq ?_
  refine wk_seq ?_
  refine wk_seq ?_
  refine wk_region ?_
  refine wa (.int .i64 0) rfl rfl rfl ?_
  refine wo_nil ?_
  refine wk_skip_seq ?_
  refine wk_block ?_
  refine wk_loop_inv (fun (mm : Nat) f H' => ∃ (i : Nat), H' = H ∧ agrees f [(0, (.string ⟨⟨s⟩⟩)), (3, (.int .i64 (i : Int)))] ∧ mm = s.length - i ∧ (i ≤ s.length) ∧ ((s.take i).all isDigB = true)) _ ⟨0, rfl, (agC rfl (agC rfl agN)), rfl, (by first | assumption | omega | (simp at *; omega)), (by rfl)⟩ ?_
  rintro mm1 f1 H ⟨i, rfl, hf1, rfl, h1, h2⟩ ih1
  refine wk_canon _ hf1 (fun gg1 => ?_)
  clear hf1
  refine wk_seq ?_
  refine wk_seq ?_
  refine wk_region ?_
  refine wm (.int .i64 (i : Int)) rfl rfl rfl ?_
  refine wm (.string ⟨⟨s⟩⟩) rfl rfl rfl ?_
  refine wo_val (v := (.int .i64 (s.length : Int))) (ap_lenS rfl rfl) rfl rfl ?_
  refine wo_val (v := (.bool (decide ((i : Int) < (s.length : Int))))) (ap_cmp rfl rfl rfl rfl) rfl rfl ?_
  refine wo_nil ?_
  refine wk_skip_seq ?_
  refine wk_cond (v := (decide ((i : Int) < (s.length : Int)))) rfl rfl (fun c2b => ?_) (fun c2b => ?_)
  · have c2 := c2b
    try simp only [BS] at c2
    have ci := c2
    refine wk_skip_seq ?_
    refine wk_seq ?_
    refine wk_block ?_
    refine wk_seq ?_
    refine wk_region ?_
    refine wm (.string ⟨⟨s⟩⟩) rfl rfl rfl ?_
    refine wm (.int .i64 (i : Int)) rfl rfl rfl ?_
    have u8_3 := u8_lt (s.getD i 0)
    refine wo_val (v := (.int .u8 ((s.getD i 0).toNat : Int))) (ap_idxS (j := (i : Int)) rfl rfl rfl (by first | omega | (show 0 < _; omega)) (getD_at (by first | omega | (show 0 < _; omega)))) rfl rfl ?_
    refine wo_call (ap_call rfl rfl rfl) rfl rfl (isDigit_c ex (s.getD i 0) _) ?_
    rintro _ H ⟨r4, rfl, rfl, rfl⟩
    refine wo_val (v := (.bool (!(isDigB (s.getD i 0))))) (ap_not rfl) rfl rfl ?_
    refine wo_nil ?_
    refine wk_skip_seq ?_
    refine wk_cond (v := (!(isDigB (s.getD i 0)))) rfl rfl (fun c5b => ?_) (fun c5b => ?_)
    · have c5 := c5b
      try simp only [BS] at c5
      have c := c5
      refine wk_seq ?_
      refine wk_region ?_
      refine wa (.bool false) rfl rfl rfl ?_
      refine wo_nil ?_
      refine wk_skip_seq ?_
      refine wk_ret ⟨.inr rfl, _, rfl, false, rfl, rfl, (by exact vn1 (by omega) c)⟩
    · have c5 := c5b
      try simp only [BS] at c5
      have c := c5
      refine wk_skip_block ?_
      refine wk_skip_seq ?_
      refine wk_region ?_
      refine wm (.int .i64 (i : Int)) rfl rfl rfl ?_
      refine wo_val (v := (.int .i64 ((i : Int) + 1))) (ap_add rfl rfl (w_i64 (n := (i : Int) + 1) (by first | omega | (show 0 < _; omega)))) rfl rfl ?_
      refine wa (.int .i64 ((i : Int) + 1)) rfl rfl rfl ?_
      refine wo_nil ?_
      refine wk_skip_seq ?_
      refine ih1 _ _ _ ?_ ⟨i + 1, rfl, (agC rfl (agC rfl agN)), rfl, (by first | assumption | omega | (simp at *; omega)), (by rw [all_take (by omega), h2, c]; rfl)⟩
      omega
  · have c2 := c2b
    try simp only [BS] at c2
    have ci := c2
    refine wk_exit_seq ?_
    refine wk_exit_seq ?_
    refine wk_exit_block ?_
    refine wk_skip_seq ?_
    refine wk_seq ?_
    refine wk_rcut 2 36 [] [(2, (.bool (((((s.getD 0 0).toNat : Int) != 48) || ((s.length : Int) == 1)) && ((decide ((s.length : Int) < 19)) || (((s.length : Int) == 19) && (Op.bytesLess s [57, 50, 50, 51, 51, 55, 50, 48, 51, 54, 56, 53, 52, 55, 55, 53, 56, 48, 56] || s == [57, 50, 50, 51, 51, 55, 50, 48, 51, 54, 56, 53, 52, 55, 55, 53, 56, 48, 56]))))))] (fun H' => H' = H) ?_ ?_
    · skip
      refine wk_region ?_
      refine wm (.string ⟨⟨s⟩⟩) rfl rfl rfl ?_
      have u8_7 := u8_lt (s.getD 0 0)
      refine wo_val (v := (.int .u8 ((s.getD 0 0).toNat : Int))) (ap_idxS (j := 0) rfl rfl rfl (by decide) (getD_at (by first | omega | (show 0 < _; omega)))) rfl rfl ?_
      refine wo_val (v := (.bool (((s.getD 0 0).toNat : Int) != 48))) (ap_cmp rfl rfl rfl rfl) rfl rfl ?_
      refine wm (.bool (((s.getD 0 0).toNat : Int) != 48)) rfl rfl rfl ?_
      refine wo_gsF (v := (((s.getD 0 0).toNat : Int) != 48)) rfl rfl (fun g8 => ?_) (fun g8 => ?_)
      · have pg8 := g8
        try simp only [BS] at pg8
        refine wm (.string ⟨⟨s⟩⟩) rfl rfl rfl ?_
        refine wo_gt rfl g8 ?_
        refine wo_val (v := (.int .i64 (s.length : Int))) (ap_lenS rfl rfl) rfl rfl ?_
        refine wo_gt rfl g8 ?_
        refine wo_val (v := (.bool ((s.length : Int) == 1))) (ap_cmp rfl rfl rfl rfl) rfl rfl ?_
        refine wo_val (v := (.bool ((s.length : Int) == 1))) (ap_pickF rfl g8 rfl) rfl rfl ?_
        refine wm (.bool ((s.length : Int) == 1)) rfl rfl rfl ?_
        refine wo_gsT (v := ((s.length : Int) == 1)) rfl rfl (fun g9 => ?_) (fun g9 => ?_)
        · have pg9 := g9
          try simp only [BS] at pg9
          refine wm (.string ⟨⟨s⟩⟩) rfl rfl rfl ?_
          refine wo_gt rfl g9 ?_
          refine wo_val (v := (.int .i64 (s.length : Int))) (ap_lenS rfl rfl) rfl rfl ?_
          refine wo_gt rfl g9 ?_
          refine wo_val (v := (.bool (decide ((s.length : Int) < 19)))) (ap_cmp rfl rfl rfl rfl) rfl rfl ?_
          refine wo_gt rfl g9 ?_
          refine wm (.bool (decide ((s.length : Int) < 19))) rfl rfl rfl ?_
          refine wo_gsF (v := (decide ((s.length : Int) < 19))) rfl rfl (fun g10 => ?_) (fun g10 => ?_)
          · have pg10 := g10
            try simp only [BS] at pg10
            refine wm (.string ⟨⟨s⟩⟩) rfl rfl rfl ?_
            refine wo_gt rfl g10 ?_
            refine wo_val (v := (.int .i64 (s.length : Int))) (ap_lenS rfl rfl) rfl rfl ?_
            refine wo_gt rfl g10 ?_
            refine wo_val (v := (.bool ((s.length : Int) == 19))) (ap_cmp rfl rfl rfl rfl) rfl rfl ?_
            refine wo_gt rfl g10 ?_
            refine wm (.bool ((s.length : Int) == 19)) rfl rfl rfl ?_
            refine wo_gsT (v := ((s.length : Int) == 19)) rfl rfl (fun g11 => ?_) (fun g11 => ?_)
            · have pg11 := g11
              try simp only [BS] at pg11
              refine wm (.string ⟨⟨s⟩⟩) rfl rfl rfl ?_
              refine wo_gt rfl g11 ?_
              refine wo_val (v := (.bool (Op.bytesLess s [57, 50, 50, 51, 51, 55, 50, 48, 51, 54, 56, 53, 52, 55, 55, 53, 56, 48, 56] || s == [57, 50, 50, 51, 51, 55, 50, 48, 51, 54, 56, 53, 52, 55, 55, 53, 56, 48, 56]))) (ap_leS rfl rfl) rfl rfl ?_
              refine wo_gt rfl g10 ?_
              refine wo_val (v := (.bool (Op.bytesLess s [57, 50, 50, 51, 51, 55, 50, 48, 51, 54, 56, 53, 52, 55, 55, 53, 56, 48, 56] || s == [57, 50, 50, 51, 51, 55, 50, 48, 51, 54, 56, 53, 52, 55, 55, 53, 56, 48, 56]))) (ap_pickT rfl g11 rfl) rfl rfl ?_
              refine wo_gt rfl g9 ?_
              refine wo_val (v := (.bool (Op.bytesLess s [57, 50, 50, 51, 51, 55, 50, 48, 51, 54, 56, 53, 52, 55, 55, 53, 56, 48, 56] || s == [57, 50, 50, 51, 51, 55, 50, 48, 51, 54, 56, 53, 52, 55, 55, 53, 56, 48, 56]))) (ap_pickF rfl g10 rfl) rfl rfl ?_
              refine wo_val (v := (.bool (Op.bytesLess s [57, 50, 50, 51, 51, 55, 50, 48, 51, 54, 56, 53, 52, 55, 55, 53, 56, 48, 56] || s == [57, 50, 50, 51, 51, 55, 50, 48, 51, 54, 56, 53, 52, 55, 55, 53, 56, 48, 56]))) (ap_pickT rfl g9 rfl) rfl rfl ?_
              refine wa (.bool (Op.bytesLess s [57, 50, 50, 51, 51, 55, 50, 48, 51, 54, 56, 53, 52, 55, 55, 53, 56, 48, 56] || s == [57, 50, 50, 51, 51, 55, 50, 48, 51, 54, 56, 53, 52, 55, 55, 53, 56, 48, 56])) rfl rfl rfl ?_
              refine wo_nil ?_
              exact wk_skip_nil ⟨rfl, rfl, (Lu rfl (Lu rfl (Lu rfl (Lu rfl (Lu rfl (Lu rfl (Lu rfl (Lu rfl (Lu rfl (Lu rfl (Lu rfl (Lu rfl (Lu rfl (Lu rfl (Lu rfl (Lu rfl (Lu rfl (Lu rfl (Lu rfl (Lu rfl (Lu rfl (Lu rfl (Lu rfl Lr))))))))))))))))))))))), (agC (congrArg Value.bool (show (Op.bytesLess s [57, 50, 50, 51, 51, 55, 50, 48, 51, 54, 56, 53, 52, 55, 55, 53, 56, 48, 56] || s == [57, 50, 50, 51, 51, 55, 50, 48, 51, 54, 56, 53, 52, 55, 55, 53, 56, 48, 56]) = (((((s.getD 0 0).toNat : Int) != 48) || ((s.length : Int) == 1)) && ((decide ((s.length : Int) < 19)) || (((s.length : Int) == 19) && (Op.bytesLess s [57, 50, 50, 51, 51, 55, 50, 48, 51, 54, 56, 53, 52, 55, 55, 53, 56, 48, 56] || s == [57, 50, 50, 51, 51, 55, 50, 48, 51, 54, 56, 53, 52, 55, 55, 53, 56, 48, 56])))) by first | rfl | simp only [↓g8, ↓g9, ↓g10, ↓g11, BT] | grind)) agN)⟩
            · have pg11 := g11
              try simp only [BS] at pg11
              refine wo_gf1 rfl g11 rfl ?_
              refine wo_gt rfl g10 ?_
              refine wo_val (v := (.bool false)) (ap_pickF rfl g11 rfl) rfl rfl ?_
              refine wo_gt rfl g9 ?_
              refine wo_val (v := (.bool false)) (ap_pickF rfl g10 rfl) rfl rfl ?_
              refine wo_val (v := (.bool false)) (ap_pickT rfl g9 rfl) rfl rfl ?_
              refine wa (.bool false) rfl rfl rfl ?_
              refine wo_nil ?_
              exact wk_skip_nil ⟨rfl, rfl, (Lu rfl (Lu rfl (Lu rfl (Lu rfl (Lu rfl (Lu rfl (Lu rfl (Lu rfl (Lu rfl (Lu rfl (Lu rfl (Lu rfl (Lu rfl (Lu rfl (Lu rfl (Lu rfl (Lu rfl (Lu rfl (Lu rfl (Lu rfl (Lu rfl (Lu rfl (Lu rfl Lr))))))))))))))))))))))), (agC (congrArg Value.bool (show false = (((((s.getD 0 0).toNat : Int) != 48) || ((s.length : Int) == 1)) && ((decide ((s.length : Int) < 19)) || (((s.length : Int) == 19) && (Op.bytesLess s [57, 50, 50, 51, 51, 55, 50, 48, 51, 54, 56, 53, 52, 55, 55, 53, 56, 48, 56] || s == [57, 50, 50, 51, 51, 55, 50, 48, 51, 54, 56, 53, 52, 55, 55, 53, 56, 48, 56])))) by first | rfl | simp only [↓g8, ↓g9, ↓g10, ↓g11, BT] | grind)) agN)⟩
          · have pg10 := g10
            try simp only [BS] at pg10
            refine wo_gf0 rfl g10 rfl ?_
            refine wo_gf0 rfl g10 rfl ?_
            refine wo_gf0 rfl g10 rfl ?_
            refine wo_gn rfl rfl ?_
            refine wo_gn rfl rfl ?_
            refine wo_gf0 rfl g10 rfl ?_
            refine wo_gt rfl g9 ?_
            refine wo_val (v := (.bool true)) (ap_pickT rfl g10 rfl) rfl rfl ?_
            refine wo_val (v := (.bool true)) (ap_pickT rfl g9 rfl) rfl rfl ?_
            refine wa (.bool true) rfl rfl rfl ?_
            refine wo_nil ?_
            exact wk_skip_nil ⟨rfl, rfl, (Lu rfl (Lu rfl (Lu rfl (Lu rfl (Lu rfl (Lu rfl (Lu rfl (Lu rfl (Lu rfl (Lu rfl (Lu rfl (Lu rfl (Lu rfl (Lu rfl (Lu rfl (Lu rfl (Lu rfl (Lu rfl (Lu rfl (Lu rfl (Lu rfl (Lu rfl (Lu rfl Lr))))))))))))))))))))))), (agC (congrArg Value.bool (show true = (((((s.getD 0 0).toNat : Int) != 48) || ((s.length : Int) == 1)) && ((decide ((s.length : Int) < 19)) || (((s.length : Int) == 19) && (Op.bytesLess s [57, 50, 50, 51, 51, 55, 50, 48, 51, 54, 56, 53, 52, 55, 55, 53, 56, 48, 56] || s == [57, 50, 50, 51, 51, 55, 50, 48, 51, 54, 56, 53, 52, 55, 55, 53, 56, 48, 56])))) by first | rfl | simp only [↓g8, ↓g9, ↓g10, BT] | grind)) agN)⟩
        · have pg9 := g9
          try simp only [BS] at pg9
          refine wo_gf1 rfl g9 rfl ?_
          refine wo_gf1 rfl g9 rfl ?_
          refine wo_gf1 rfl g9 rfl ?_
          refine wo_gn rfl rfl ?_
          refine wo_gn rfl rfl ?_
          refine wo_gn rfl rfl ?_
          refine wo_gn rfl rfl ?_
          refine wo_gn rfl rfl ?_
          refine wo_gn rfl rfl ?_
          refine wo_gn rfl rfl ?_
          refine wo_gf1 rfl g9 rfl ?_
          refine wo_val (v := (.bool false)) (ap_pickF rfl g9 rfl) rfl rfl ?_
          refine wa (.bool false) rfl rfl rfl ?_
          refine wo_nil ?_
          exact wk_skip_nil ⟨rfl, rfl, (Lu rfl (Lu rfl (Lu rfl (Lu rfl (Lu rfl (Lu rfl (Lu rfl (Lu rfl (Lu rfl (Lu rfl (Lu rfl (Lu rfl (Lu rfl (Lu rfl (Lu rfl (Lu rfl (Lu rfl (Lu rfl (Lu rfl (Lu rfl (Lu rfl (Lu rfl (Lu rfl Lr))))))))))))))))))))))), (agC (congrArg Value.bool (show false = (((((s.getD 0 0).toNat : Int) != 48) || ((s.length : Int) == 1)) && ((decide ((s.length : Int) < 19)) || (((s.length : Int) == 19) && (Op.bytesLess s [57, 50, 50, 51, 51, 55, 50, 48, 51, 54, 56, 53, 52, 55, 55, 53, 56, 48, 56] || s == [57, 50, 50, 51, 51, 55, 50, 48, 51, 54, 56, 53, 52, 55, 55, 53, 56, 48, 56])))) by first | rfl | simp only [↓g8, ↓g9, BT] | grind)) agN)⟩
      · have pg8 := g8
        try simp only [BS] at pg8
        refine wo_gf0 rfl g8 rfl ?_
        refine wo_gf0 rfl g8 rfl ?_
        refine wo_val (v := (.bool true)) (ap_pickT rfl g8 rfl) rfl rfl ?_
        refine wm (.bool true) rfl rfl rfl ?_
        refine wo_gt rfl rfl ?_
        refine wm (.string ⟨⟨s⟩⟩) rfl rfl rfl ?_
        refine wo_gt rfl rfl ?_
        refine wo_val (v := (.int .i64 (s.length : Int))) (ap_lenS rfl rfl) rfl rfl ?_
        refine wo_gt rfl rfl ?_
        refine wo_val (v := (.bool (decide ((s.length : Int) < 19)))) (ap_cmp rfl rfl rfl rfl) rfl rfl ?_
        refine wo_gt rfl rfl ?_
        refine wm (.bool (decide ((s.length : Int) < 19))) rfl rfl rfl ?_
        refine wo_gsF (v := (decide ((s.length : Int) < 19))) rfl rfl (fun g12 => ?_) (fun g12 => ?_)
        · have pg12 := g12
          try simp only [BS] at pg12
          refine wm (.string ⟨⟨s⟩⟩) rfl rfl rfl ?_
          refine wo_gt rfl g12 ?_
          refine wo_val (v := (.int .i64 (s.length : Int))) (ap_lenS rfl rfl) rfl rfl ?_
          refine wo_gt rfl g12 ?_
          refine wo_val (v := (.bool ((s.length : Int) == 19))) (ap_cmp rfl rfl rfl rfl) rfl rfl ?_
          refine wo_gt rfl g12 ?_
          refine wm (.bool ((s.length : Int) == 19)) rfl rfl rfl ?_
          refine wo_gsT (v := ((s.length : Int) == 19)) rfl rfl (fun g13 => ?_) (fun g13 => ?_)
          · have pg13 := g13
            try simp only [BS] at pg13
            refine wm (.string ⟨⟨s⟩⟩) rfl rfl rfl ?_
            refine wo_gt rfl g13 ?_
            refine wo_val (v := (.bool (Op.bytesLess s [57, 50, 50, 51, 51, 55, 50, 48, 51, 54, 56, 53, 52, 55, 55, 53, 56, 48, 56] || s == [57, 50, 50, 51, 51, 55, 50, 48, 51, 54, 56, 53, 52, 55, 55, 53, 56, 48, 56]))) (ap_leS rfl rfl) rfl rfl ?_
            refine wo_gt rfl g12 ?_
            refine wo_val (v := (.bool (Op.bytesLess s [57, 50, 50, 51, 51, 55, 50, 48, 51, 54, 56, 53, 52, 55, 55, 53, 56, 48, 56] || s == [57, 50, 50, 51, 51, 55, 50, 48, 51, 54, 56, 53, 52, 55, 55, 53, 56, 48, 56]))) (ap_pickT rfl g13 rfl) rfl rfl ?_
            refine wo_gt rfl rfl ?_
            refine wo_val (v := (.bool (Op.bytesLess s [57, 50, 50, 51, 51, 55, 50, 48, 51, 54, 56, 53, 52, 55, 55, 53, 56, 48, 56] || s == [57, 50, 50, 51, 51, 55, 50, 48, 51, 54, 56, 53, 52, 55, 55, 53, 56, 48, 56]))) (ap_pickF rfl g12 rfl) rfl rfl ?_
            refine wo_val (v := (.bool (Op.bytesLess s [57, 50, 50, 51, 51, 55, 50, 48, 51, 54, 56, 53, 52, 55, 55, 53, 56, 48, 56] || s == [57, 50, 50, 51, 51, 55, 50, 48, 51, 54, 56, 53, 52, 55, 55, 53, 56, 48, 56]))) (ap_pickT rfl rfl rfl) rfl rfl ?_
            refine wa (.bool (Op.bytesLess s [57, 50, 50, 51, 51, 55, 50, 48, 51, 54, 56, 53, 52, 55, 55, 53, 56, 48, 56] || s == [57, 50, 50, 51, 51, 55, 50, 48, 51, 54, 56, 53, 52, 55, 55, 53, 56, 48, 56])) rfl rfl rfl ?_
            refine wo_nil ?_
            exact wk_skip_nil ⟨rfl, rfl, (Lu rfl (Lu rfl (Lu rfl (Lu rfl (Lu rfl (Lu rfl (Lu rfl (Lu rfl (Lu rfl (Lu rfl (Lu rfl (Lu rfl (Lu rfl (Lu rfl (Lu rfl (Lu rfl (Lu rfl (Lu rfl (Lu rfl (Lu rfl (Lu rfl (Lu rfl (Lu rfl Lr))))))))))))))))))))))), (agC (congrArg Value.bool (show (Op.bytesLess s [57, 50, 50, 51, 51, 55, 50, 48, 51, 54, 56, 53, 52, 55, 55, 53, 56, 48, 56] || s == [57, 50, 50, 51, 51, 55, 50, 48, 51, 54, 56, 53, 52, 55, 55, 53, 56, 48, 56]) = (((((s.getD 0 0).toNat : Int) != 48) || ((s.length : Int) == 1)) && ((decide ((s.length : Int) < 19)) || (((s.length : Int) == 19) && (Op.bytesLess s [57, 50, 50, 51, 51, 55, 50, 48, 51, 54, 56, 53, 52, 55, 55, 53, 56, 48, 56] || s == [57, 50, 50, 51, 51, 55, 50, 48, 51, 54, 56, 53, 52, 55, 55, 53, 56, 48, 56])))) by first | rfl | simp only [↓g8, ↓g12, ↓g13, BT] | grind)) agN)⟩
          · have pg13 := g13
            try simp only [BS] at pg13
            refine wo_gf1 rfl g13 rfl ?_
            refine wo_gt rfl g12 ?_
            refine wo_val (v := (.bool false)) (ap_pickF rfl g13 rfl) rfl rfl ?_
            refine wo_gt rfl rfl ?_
            refine wo_val (v := (.bool false)) (ap_pickF rfl g12 rfl) rfl rfl ?_
            refine wo_val (v := (.bool false)) (ap_pickT rfl rfl rfl) rfl rfl ?_
            refine wa (.bool false) rfl rfl rfl ?_
            refine wo_nil ?_
            exact wk_skip_nil ⟨rfl, rfl, (Lu rfl (Lu rfl (Lu rfl (Lu rfl (Lu rfl (Lu rfl (Lu rfl (Lu rfl (Lu rfl (Lu rfl (Lu rfl (Lu rfl (Lu rfl (Lu rfl (Lu rfl (Lu rfl (Lu rfl (Lu rfl (Lu rfl (Lu rfl (Lu rfl (Lu rfl (Lu rfl Lr))))))))))))))))))))))), (agC (congrArg Value.bool (show false = (((((s.getD 0 0).toNat : Int) != 48) || ((s.length : Int) == 1)) && ((decide ((s.length : Int) < 19)) || (((s.length : Int) == 19) && (Op.bytesLess s [57, 50, 50, 51, 51, 55, 50, 48, 51, 54, 56, 53, 52, 55, 55, 53, 56, 48, 56] || s == [57, 50, 50, 51, 51, 55, 50, 48, 51, 54, 56, 53, 52, 55, 55, 53, 56, 48, 56])))) by first | rfl | simp only [↓g8, ↓g12, ↓g13, BT] | grind)) agN)⟩
        · have pg12 := g12
          try simp only [BS] at pg12
          refine wo_gf0 rfl g12 rfl ?_
          refine wo_gf0 rfl g12 rfl ?_
          refine wo_gf0 rfl g12 rfl ?_
          refine wo_gn rfl rfl ?_
          refine wo_gn rfl rfl ?_
          refine wo_gf0 rfl g12 rfl ?_
          refine wo_gt rfl rfl ?_
          refine wo_val (v := (.bool true)) (ap_pickT rfl g12 rfl) rfl rfl ?_
          refine wo_val (v := (.bool true)) (ap_pickT rfl rfl rfl) rfl rfl ?_
          refine wa (.bool true) rfl rfl rfl ?_
          refine wo_nil ?_
          exact wk_skip_nil ⟨rfl, rfl, (Lu rfl (Lu rfl (Lu rfl (Lu rfl (Lu rfl (Lu rfl (Lu rfl (Lu rfl (Lu rfl (Lu rfl (Lu rfl (Lu rfl (Lu rfl (Lu rfl (Lu rfl (Lu rfl (Lu rfl (Lu rfl (Lu rfl (Lu rfl (Lu rfl (Lu rfl (Lu rfl Lr))))))))))))))))))))))), (agC (congrArg Value.bool (show true = (((((s.getD 0 0).toNat : Int) != 48) || ((s.length : Int) == 1)) && ((decide ((s.length : Int) < 19)) || (((s.length : Int) == 19) && (Op.bytesLess s [57, 50, 50, 51, 51, 55, 50, 48, 51, 54, 56, 53, 52, 55, 55, 53, 56, 48, 56] || s == [57, 50, 50, 51, 51, 55, 50, 48, 51, 54, 56, 53, 52, 55, 55, 53, 56, 48, 56])))) by first | rfl | simp only [↓g8, ↓g12, BT] | grind)) agN)⟩
    · skip
      rintro g6 H rfl
      refine wk_skip_seq ?_
      refine wk_ret ⟨.inr rfl, _, rfl, (((((s.getD 0 0).toNat : Int) != 48) || ((s.length : Int) == 1)) && ((decide ((s.length : Int) < 19)) || (((s.length : Int) == 19) && (Op.bytesLess s [57, 50, 50, 51, 51, 55, 50, 48, 51, 54, 56, 53, 52, 55, 55, 53, 56, 48, 56] || s == [57, 50, 50, 51, 51, 55, 50, 48, 51, 54, 56, 53, 52, 55, 55, 53, 56, 48, 56])))), rfl, rfl, (by exact vn2 (all_of_take (by omega) h2))⟩

theorem symLen_c (ex : FuncId) (s : List UInt8) (H : Heap) (h0 : 0 < s.length) : C Try.prog 0 (KX ex) 55 [(.string ⟨⟨s⟩⟩)] H fun v H' => ∃ (r : Nat), H' = H ∧ v = .int .i64 (r : Int) ∧ r = symLen s := by
  refine c_enter Try.func55 rfl rfl ?_
  refine wk_seq ?_
  refine wk_region ?_
  refine wa (.int .i64 0) rfl rfl rfl ?_
  refine wo_nil ?_
  refine wk_skip_seq ?_
  refine wk_seq ?_
  refine wk_seq ?_
  refine wk_region ?_
  refine wo_val (v := (.agg ⟨[(.string ⟨⟨[62, 62, 62]⟩⟩), (.string ⟨⟨[60, 60]⟩⟩), (.string ⟨⟨[62, 62]⟩⟩), (.string ⟨⟨[60, 61]⟩⟩), (.string ⟨⟨[62, 61]⟩⟩), (.string ⟨⟨[61, 61]⟩⟩), (.string ⟨⟨[33, 61]⟩⟩)]⟩)) (ap_bld rfl rfl (by kernel_rfl)) rfl rfl ?_
  refine wm (.int .i64 0) rfl rfl rfl ?_
  refine wo_nil ?_
  refine wk_skip_seq ?_
  refine wk_block ?_
  refine wk_loop ?_
  refine wk_seq ?_
  refine wk_region ?_
  refine wo_val (v := (.bool true)) (ap_cmp rfl rfl rfl rfl) rfl rfl ?_
  refine wo_nil ?_
  refine wk_skip_seq ?_
  refine wk_seq ?_
  refine wk_true (v := true) rfl rfl rfl ?_
  refine wk_skip_seq ?_
  refine wk_seq ?_
  refine wk_block ?_
  refine wk_seq ?_
  refine wk_region ?_
  refine wo_val (v := (.string ⟨⟨[62, 62, 62]⟩⟩)) (ap_ixG (r := (.string ⟨⟨[62, 62, 62]⟩⟩)) rfl rfl (by kernel_rfl)) rfl rfl ?_
  refine wa (.string ⟨⟨[62, 62, 62]⟩⟩) rfl rfl rfl ?_
  refine wo_nil ?_
  refine wk_skip_seq ?_
  refine wk_seq ?_
  refine wk_rcut 10 22 [] [(22, (.bool ((decide ((3 : Int) ≤ (s.length : Int))) && ((s.take 3) == [62, 62, 62]))))] (fun H' => H' = H) ?_ ?_
  · skip
    refine wk_region ?_
    refine wm (.string ⟨⟨s⟩⟩) rfl rfl rfl ?_
    refine wo_val (v := (.int .i64 (s.length : Int))) (ap_lenS rfl rfl) rfl rfl ?_
    refine wm (.string ⟨⟨[62, 62, 62]⟩⟩) rfl rfl rfl ?_
    refine wo_val (v := (.int .i64 3)) (ap_lenS (s := [62, 62, 62]) rfl rfl) rfl rfl ?_
    refine wo_val (v := (.bool (decide ((3 : Int) ≤ (s.length : Int))))) (ap_cmp rfl rfl rfl rfl) rfl rfl ?_
    refine wm (.bool (decide ((3 : Int) ≤ (s.length : Int)))) rfl rfl rfl ?_
    refine wo_gsT (v := (decide ((3 : Int) ≤ (s.length : Int)))) rfl rfl (fun g2 => ?_) (fun g2 => ?_)
    · have pg2 := g2
      try simp only [BS] at pg2
      refine wm (.string ⟨⟨s⟩⟩) rfl rfl rfl ?_
      refine wo_gt rfl g2 ?_
      refine wm (.string ⟨⟨[62, 62, 62]⟩⟩) rfl rfl rfl ?_
      refine wo_gt rfl g2 ?_
      refine wo_val (v := (.int .i64 3)) (ap_lenS (s := [62, 62, 62]) rfl rfl) rfl rfl ?_
      refine wo_gt rfl g2 ?_
      refine wo_val (v := (.string ⟨⟨s.take 3⟩⟩)) (ap_slSt (j := 3) rfl rfl (optN (by decide)) (by first | omega | (show _ < 23; omega))) rfl rfl ?_
      refine wo_gt rfl g2 ?_
      refine wm (.string ⟨⟨[62, 62, 62]⟩⟩) rfl rfl rfl ?_
      refine wo_gt rfl g2 ?_
      refine wo_val (v := (.bool ((s.take 3) == [62, 62, 62]))) (ap_eqS rfl rfl) rfl rfl ?_
      refine wo_val (v := (.bool ((s.take 3) == [62, 62, 62]))) (ap_pickT rfl g2 rfl) rfl rfl ?_
      refine wo_nil ?_
      exact wk_skip_nil ⟨rfl, rfl, (Lu rfl (Lu rfl (Lu rfl (Lu rfl (Lu rfl (Lu rfl (Lu rfl (Lu rfl (Lu rfl (Lu rfl (Lu rfl (Lu rfl (Lu rfl Lr))))))))))))), (agC (congrArg Value.bool (show ((s.take 3) == [62, 62, 62]) = ((decide ((3 : Int) ≤ (s.length : Int))) && ((s.take 3) == [62, 62, 62])) by first | rfl | simp only [↓g2, BT] | grind)) agN)⟩
    · have pg2 := g2
      try simp only [BS] at pg2
      refine wo_gf1 rfl g2 rfl ?_
      refine wo_gf1 rfl g2 rfl ?_
      refine wo_gf1 rfl g2 rfl ?_
      refine wo_gf1 rfl g2 rfl ?_
      refine wo_gf1 rfl g2 rfl ?_
      refine wo_val (v := (.bool false)) (ap_pickF rfl g2 rfl) rfl rfl ?_
      refine wo_nil ?_
      exact wk_skip_nil ⟨rfl, rfl, (Lu rfl (Lu rfl (Lu rfl (Lu rfl (Lu rfl (Lu rfl (Lu rfl (Lu rfl (Lu rfl (Lu rfl (Lu rfl (Lu rfl (Lu rfl Lr))))))))))))), (agC (congrArg Value.bool (show false = ((decide ((3 : Int) ≤ (s.length : Int))) && ((s.take 3) == [62, 62, 62])) by first | rfl | simp only [↓g2, BT] | grind)) agN)⟩
  · skip
    rintro g1 H rfl
    refine wk_skip_seq ?_
    refine wk_cond (v := ((decide ((3 : Int) ≤ (s.length : Int))) && ((s.take 3) == [62, 62, 62]))) rfl rfl (fun c3b => ?_) (fun c3b => ?_)
    · have c3 := c3b
      try simp only [BS] at c3
      have nn := (c3).2
      refine wk_seq ?_
      refine wk_region ?_
      refine wm (.string ⟨⟨[62, 62, 62]⟩⟩) rfl rfl rfl ?_
      refine wo_val (v := (.int .i64 3)) (ap_lenS (s := [62, 62, 62]) rfl rfl) rfl rfl ?_
      refine wa (.int .i64 3) rfl rfl rfl ?_
      refine wo_nil ?_
      refine wk_skip_seq ?_
      refine wk_ret ⟨.inr rfl, _, rfl, 3, rfl, rfl, (by simp only [symLen, *, ↓reduceIte, true_or, or_true])⟩
    · have c3 := c3b
      try simp only [BS] at c3
      first | have nn := tk3 c3 | have nn := tk2 c3
      refine wk_skip_block ?_
      refine wk_skip_seq ?_
      refine wk_region ?_
      refine wo_val (v := (.int .i64 1)) (ap_add rfl rfl rfl) rfl rfl ?_
      refine wm (.int .i64 1) rfl rfl rfl ?_
      refine wo_nil ?_
      refine wk_skip_seq ?_
      refine wk_loop ?_
      refine wk_seq ?_
      refine wk_region ?_
      refine wo_val (v := (.bool true)) (ap_cmp rfl rfl rfl rfl) rfl rfl ?_
      refine wo_nil ?_
      refine wk_skip_seq ?_
      refine wk_seq ?_
      refine wk_true (v := true) rfl rfl rfl ?_
      refine wk_skip_seq ?_
      refine wk_seq ?_
      refine wk_block ?_
      refine wk_seq ?_
      refine wk_region ?_
      refine wo_val (v := (.string ⟨⟨[60, 60]⟩⟩)) (ap_ixG (r := (.string ⟨⟨[60, 60]⟩⟩)) rfl rfl (by kernel_rfl)) rfl rfl ?_
      refine wa (.string ⟨⟨[60, 60]⟩⟩) rfl rfl rfl ?_
      refine wo_nil ?_
      refine wk_skip_seq ?_
      refine wk_seq ?_
      refine wk_rcut 10 22 [] [(22, (.bool ((decide ((2 : Int) ≤ (s.length : Int))) && ((s.take 2) == [60, 60]))))] (fun H' => H' = H) ?_ ?_
      · skip
        refine wk_region ?_
        refine wm (.string ⟨⟨s⟩⟩) rfl rfl rfl ?_
        refine wo_val (v := (.int .i64 (s.length : Int))) (ap_lenS rfl rfl) rfl rfl ?_
        refine wm (.string ⟨⟨[60, 60]⟩⟩) rfl rfl rfl ?_
        refine wo_val (v := (.int .i64 2)) (ap_lenS (s := [60, 60]) rfl rfl) rfl rfl ?_
        refine wo_val (v := (.bool (decide ((2 : Int) ≤ (s.length : Int))))) (ap_cmp rfl rfl rfl rfl) rfl rfl ?_
        refine wm (.bool (decide ((2 : Int) ≤ (s.length : Int)))) rfl rfl rfl ?_
        refine wo_gsT (v := (decide ((2 : Int) ≤ (s.length : Int)))) rfl rfl (fun g5 => ?_) (fun g5 => ?_)
        · have pg5 := g5
          try simp only [BS] at pg5
          refine wm (.string ⟨⟨s⟩⟩) rfl rfl rfl ?_
          refine wo_gt rfl g5 ?_
          refine wm (.string ⟨⟨[60, 60]⟩⟩) rfl rfl rfl ?_
          refine wo_gt rfl g5 ?_
          refine wo_val (v := (.int .i64 2)) (ap_lenS (s := [60, 60]) rfl rfl) rfl rfl ?_
          refine wo_gt rfl g5 ?_
          refine wo_val (v := (.string ⟨⟨s.take 2⟩⟩)) (ap_slSt (j := 2) rfl rfl (optN (by decide)) (by first | omega | (show _ < 23; omega))) rfl rfl ?_
          refine wo_gt rfl g5 ?_
          refine wm (.string ⟨⟨[60, 60]⟩⟩) rfl rfl rfl ?_
          refine wo_gt rfl g5 ?_
          refine wo_val (v := (.bool ((s.take 2) == [60, 60]))) (ap_eqS rfl rfl) rfl rfl ?_
          refine wo_val (v := (.bool ((s.take 2) == [60, 60]))) (ap_pickT rfl g5 rfl) rfl rfl ?_
          refine wo_nil ?_
          exact wk_skip_nil ⟨rfl, rfl, (Lu rfl (Lu rfl (Lu rfl (Lu rfl (Lu rfl (Lu rfl (Lu rfl (Lu rfl (Lu rfl (Lu rfl (Lu rfl (Lu rfl (Lu rfl Lr))))))))))))), (agC (congrArg Value.bool (show ((s.take 2) == [60, 60]) = ((decide ((2 : Int) ≤ (s.length : Int))) && ((s.take 2) == [60, 60])) by first | rfl | simp only [↓g5, BT] | grind)) agN)⟩
        · have pg5 := g5
          try simp only [BS] at pg5
          refine wo_gf1 rfl g5 rfl ?_
          refine wo_gf1 rfl g5 rfl ?_
          refine wo_gf1 rfl g5 rfl ?_
          refine wo_gf1 rfl g5 rfl ?_
          refine wo_gf1 rfl g5 rfl ?_
          refine wo_val (v := (.bool false)) (ap_pickF rfl g5 rfl) rfl rfl ?_
          refine wo_nil ?_
          exact wk_skip_nil ⟨rfl, rfl, (Lu rfl (Lu rfl (Lu rfl (Lu rfl (Lu rfl (Lu rfl (Lu rfl (Lu rfl (Lu rfl (Lu rfl (Lu rfl (Lu rfl (Lu rfl Lr))))))))))))), (agC (congrArg Value.bool (show false = ((decide ((2 : Int) ≤ (s.length : Int))) && ((s.take 2) == [60, 60])) by first | rfl | simp only [↓g5, BT] | grind)) agN)⟩
      · skip
        rintro g4 H rfl
        refine wk_skip_seq ?_
        refine wk_cond (v := ((decide ((2 : Int) ≤ (s.length : Int))) && ((s.take 2) == [60, 60]))) rfl rfl (fun c6b => ?_) (fun c6b => ?_)
        · have c6 := c6b
          try simp only [BS] at c6
          have nn := (c6).2
          refine wk_seq ?_
          refine wk_region ?_
          refine wm (.string ⟨⟨[60, 60]⟩⟩) rfl rfl rfl ?_
          refine wo_val (v := (.int .i64 2)) (ap_lenS (s := [60, 60]) rfl rfl) rfl rfl ?_
          refine wa (.int .i64 2) rfl rfl rfl ?_
          refine wo_nil ?_
          refine wk_skip_seq ?_
          refine wk_ret ⟨.inr rfl, _, rfl, 2, rfl, rfl, (by simp only [symLen, *, ↓reduceIte, true_or, or_true])⟩
        · have c6 := c6b
          try simp only [BS] at c6
          first | have nn := tk3 c6 | have nn := tk2 c6
          refine wk_skip_block ?_
          refine wk_skip_seq ?_
          refine wk_region ?_
          refine wo_val (v := (.int .i64 2)) (ap_add rfl rfl rfl) rfl rfl ?_
          refine wm (.int .i64 2) rfl rfl rfl ?_
          refine wo_nil ?_
          refine wk_skip_seq ?_
          refine wk_loop ?_
          refine wk_seq ?_
          refine wk_region ?_
          refine wo_val (v := (.bool true)) (ap_cmp rfl rfl rfl rfl) rfl rfl ?_
          refine wo_nil ?_
          refine wk_skip_seq ?_
          refine wk_seq ?_
          refine wk_true (v := true) rfl rfl rfl ?_
          refine wk_skip_seq ?_
          refine wk_seq ?_
          refine wk_block ?_
          refine wk_seq ?_
          refine wk_region ?_
          refine wo_val (v := (.string ⟨⟨[62, 62]⟩⟩)) (ap_ixG (r := (.string ⟨⟨[62, 62]⟩⟩)) rfl rfl (by kernel_rfl)) rfl rfl ?_
          refine wa (.string ⟨⟨[62, 62]⟩⟩) rfl rfl rfl ?_
          refine wo_nil ?_
          refine wk_skip_seq ?_
          refine wk_seq ?_
          refine wk_rcut 10 22 [] [(22, (.bool ((decide ((2 : Int) ≤ (s.length : Int))) && ((s.take 2) == [62, 62]))))] (fun H' => H' = H) ?_ ?_
          · skip
            refine wk_region ?_
            refine wm (.string ⟨⟨s⟩⟩) rfl rfl rfl ?_
            refine wo_val (v := (.int .i64 (s.length : Int))) (ap_lenS rfl rfl) rfl rfl ?_
            refine wm (.string ⟨⟨[62, 62]⟩⟩) rfl rfl rfl ?_
            refine wo_val (v := (.int .i64 2)) (ap_lenS (s := [62, 62]) rfl rfl) rfl rfl ?_
            refine wo_val (v := (.bool (decide ((2 : Int) ≤ (s.length : Int))))) (ap_cmp rfl rfl rfl rfl) rfl rfl ?_
            refine wm (.bool (decide ((2 : Int) ≤ (s.length : Int)))) rfl rfl rfl ?_
            refine wo_gsT (v := (decide ((2 : Int) ≤ (s.length : Int)))) rfl rfl (fun g8 => ?_) (fun g8 => ?_)
            · have pg8 := g8
              try simp only [BS] at pg8
              refine wm (.string ⟨⟨s⟩⟩) rfl rfl rfl ?_
              refine wo_gt rfl g8 ?_
              refine wm (.string ⟨⟨[62, 62]⟩⟩) rfl rfl rfl ?_
              refine wo_gt rfl g8 ?_
              refine wo_val (v := (.int .i64 2)) (ap_lenS (s := [62, 62]) rfl rfl) rfl rfl ?_
              refine wo_gt rfl g8 ?_
              refine wo_val (v := (.string ⟨⟨s.take 2⟩⟩)) (ap_slSt (j := 2) rfl rfl (optN (by decide)) (by first | omega | (show _ < 23; omega))) rfl rfl ?_
              refine wo_gt rfl g8 ?_
              refine wm (.string ⟨⟨[62, 62]⟩⟩) rfl rfl rfl ?_
              refine wo_gt rfl g8 ?_
              refine wo_val (v := (.bool ((s.take 2) == [62, 62]))) (ap_eqS rfl rfl) rfl rfl ?_
              refine wo_val (v := (.bool ((s.take 2) == [62, 62]))) (ap_pickT rfl g8 rfl) rfl rfl ?_
              refine wo_nil ?_
              exact wk_skip_nil ⟨rfl, rfl, (Lu rfl (Lu rfl (Lu rfl (Lu rfl (Lu rfl (Lu rfl (Lu rfl (Lu rfl (Lu rfl (Lu rfl (Lu rfl (Lu rfl (Lu rfl Lr))))))))))))), (agC (congrArg Value.bool (show ((s.take 2) == [62, 62]) = ((decide ((2 : Int) ≤ (s.length : Int))) && ((s.take 2) == [62, 62])) by first | rfl | simp only [↓g8, BT] | grind)) agN)⟩
            · have pg8 := g8
              try simp only [BS] at pg8
              refine wo_gf1 rfl g8 rfl ?_
              refine wo_gf1 rfl g8 rfl ?_
              refine wo_gf1 rfl g8 rfl ?_
              refine wo_gf1 rfl g8 rfl ?_
              refine wo_gf1 rfl g8 rfl ?_
              refine wo_val (v := (.bool false)) (ap_pickF rfl g8 rfl) rfl rfl ?_
              refine wo_nil ?_
              exact wk_skip_nil ⟨rfl, rfl, (Lu rfl (Lu rfl (Lu rfl (Lu rfl (Lu rfl (Lu rfl (Lu rfl (Lu rfl (Lu rfl (Lu rfl (Lu rfl (Lu rfl (Lu rfl Lr))))))))))))), (agC (congrArg Value.bool (show false = ((decide ((2 : Int) ≤ (s.length : Int))) && ((s.take 2) == [62, 62])) by first | rfl | simp only [↓g8, BT] | grind)) agN)⟩
          · skip
            rintro g7 H rfl
            refine wk_skip_seq ?_
            refine wk_cond (v := ((decide ((2 : Int) ≤ (s.length : Int))) && ((s.take 2) == [62, 62]))) rfl rfl (fun c9b => ?_) (fun c9b => ?_)
            · have c9 := c9b
              try simp only [BS] at c9
              have nn := (c9).2
              refine wk_seq ?_
              refine wk_region ?_
              refine wm (.string ⟨⟨[62, 62]⟩⟩) rfl rfl rfl ?_
              refine wo_val (v := (.int .i64 2)) (ap_lenS (s := [62, 62]) rfl rfl) rfl rfl ?_
              refine wa (.int .i64 2) rfl rfl rfl ?_
              refine wo_nil ?_
              refine wk_skip_seq ?_
              refine wk_ret ⟨.inr rfl, _, rfl, 2, rfl, rfl, (by simp only [symLen, *, ↓reduceIte, true_or, or_true])⟩
            · have c9 := c9b
              try simp only [BS] at c9
              first | have nn := tk3 c9 | have nn := tk2 c9
              refine wk_skip_block ?_
              refine wk_skip_seq ?_
              refine wk_region ?_
              refine wo_val (v := (.int .i64 3)) (ap_add rfl rfl rfl) rfl rfl ?_
              refine wm (.int .i64 3) rfl rfl rfl ?_
              refine wo_nil ?_
              refine wk_skip_seq ?_
              refine wk_loop ?_
              refine wk_seq ?_
              refine wk_region ?_
              refine wo_val (v := (.bool true)) (ap_cmp rfl rfl rfl rfl) rfl rfl ?_
              refine wo_nil ?_
              refine wk_skip_seq ?_
              refine wk_seq ?_
              refine wk_true (v := true) rfl rfl rfl ?_
              refine wk_skip_seq ?_
              refine wk_seq ?_
              refine wk_block ?_
              refine wk_seq ?_
              refine wk_region ?_
              refine wo_val (v := (.string ⟨⟨[60, 61]⟩⟩)) (ap_ixG (r := (.string ⟨⟨[60, 61]⟩⟩)) rfl rfl (by kernel_rfl)) rfl rfl ?_
              refine wa (.string ⟨⟨[60, 61]⟩⟩) rfl rfl rfl ?_
              refine wo_nil ?_
              refine wk_skip_seq ?_
              refine wk_seq ?_
              refine wk_rcut 10 22 [] [(22, (.bool ((decide ((2 : Int) ≤ (s.length : Int))) && ((s.take 2) == [60, 61]))))] (fun H' => H' = H) ?_ ?_
              · skip
                refine wk_region ?_
                refine wm (.string ⟨⟨s⟩⟩) rfl rfl rfl ?_
                refine wo_val (v := (.int .i64 (s.length : Int))) (ap_lenS rfl rfl) rfl rfl ?_
                refine wm (.string ⟨⟨[60, 61]⟩⟩) rfl rfl rfl ?_
                refine wo_val (v := (.int .i64 2)) (ap_lenS (s := [60, 61]) rfl rfl) rfl rfl ?_
                refine wo_val (v := (.bool (decide ((2 : Int) ≤ (s.length : Int))))) (ap_cmp rfl rfl rfl rfl) rfl rfl ?_
                refine wm (.bool (decide ((2 : Int) ≤ (s.length : Int)))) rfl rfl rfl ?_
                refine wo_gsT (v := (decide ((2 : Int) ≤ (s.length : Int)))) rfl rfl (fun g11 => ?_) (fun g11 => ?_)
                · have pg11 := g11
                  try simp only [BS] at pg11
                  refine wm (.string ⟨⟨s⟩⟩) rfl rfl rfl ?_
                  refine wo_gt rfl g11 ?_
                  refine wm (.string ⟨⟨[60, 61]⟩⟩) rfl rfl rfl ?_
                  refine wo_gt rfl g11 ?_
                  refine wo_val (v := (.int .i64 2)) (ap_lenS (s := [60, 61]) rfl rfl) rfl rfl ?_
                  refine wo_gt rfl g11 ?_
                  refine wo_val (v := (.string ⟨⟨s.take 2⟩⟩)) (ap_slSt (j := 2) rfl rfl (optN (by decide)) (by first | omega | (show _ < 23; omega))) rfl rfl ?_
                  refine wo_gt rfl g11 ?_
                  refine wm (.string ⟨⟨[60, 61]⟩⟩) rfl rfl rfl ?_
                  refine wo_gt rfl g11 ?_
                  refine wo_val (v := (.bool ((s.take 2) == [60, 61]))) (ap_eqS rfl rfl) rfl rfl ?_
                  refine wo_val (v := (.bool ((s.take 2) == [60, 61]))) (ap_pickT rfl g11 rfl) rfl rfl ?_
                  refine wo_nil ?_
                  exact wk_skip_nil ⟨rfl, rfl, (Lu rfl (Lu rfl (Lu rfl (Lu rfl (Lu rfl (Lu rfl (Lu rfl (Lu rfl (Lu rfl (Lu rfl (Lu rfl (Lu rfl (Lu rfl Lr))))))))))))), (agC (congrArg Value.bool (show ((s.take 2) == [60, 61]) = ((decide ((2 : Int) ≤ (s.length : Int))) && ((s.take 2) == [60, 61])) by first | rfl | simp only [↓g11, BT] | grind)) agN)⟩
                · have pg11 := g11
                  try simp only [BS] at pg11
                  refine wo_gf1 rfl g11 rfl ?_
                  refine wo_gf1 rfl g11 rfl ?_
                  refine wo_gf1 rfl g11 rfl ?_
                  refine wo_gf1 rfl g11 rfl ?_
                  refine wo_gf1 rfl g11 rfl ?_
                  refine wo_val (v := (.bool false)) (ap_pickF rfl g11 rfl) rfl rfl ?_
                  refine wo_nil ?_
                  exact wk_skip_nil ⟨rfl, rfl, (Lu rfl (Lu rfl (Lu rfl (Lu rfl (Lu rfl (Lu rfl (Lu rfl (Lu rfl (Lu rfl (Lu rfl (Lu rfl (Lu rfl (Lu rfl Lr))))))))))))), (agC (congrArg Value.bool (show false = ((decide ((2 : Int) ≤ (s.length : Int))) && ((s.take 2) == [60, 61])) by first | rfl | simp only [↓g11, BT] | grind)) agN)⟩
              · skip
                rintro g10 H rfl
                refine wk_skip_seq ?_
                refine wk_cond (v := ((decide ((2 : Int) ≤ (s.length : Int))) && ((s.take 2) == [60, 61]))) rfl rfl (fun c12b => ?_) (fun c12b => ?_)
                · have c12 := c12b
                  try simp only [BS] at c12
                  have nn := (c12).2
                  refine wk_seq ?_
                  refine wk_region ?_
                  refine wm (.string ⟨⟨[60, 61]⟩⟩) rfl rfl rfl ?_
                  refine wo_val (v := (.int .i64 2)) (ap_lenS (s := [60, 61]) rfl rfl) rfl rfl ?_
                  refine wa (.int .i64 2) rfl rfl rfl ?_
                  refine wo_nil ?_
                  refine wk_skip_seq ?_
                  refine wk_ret ⟨.inr rfl, _, rfl, 2, rfl, rfl, (by simp only [symLen, *, ↓reduceIte, true_or, or_true])⟩
                · have c12 := c12b
                  try simp only [BS] at c12
                  first | have nn := tk3 c12 | have nn := tk2 c12
                  refine wk_skip_block ?_
                  refine wk_skip_seq ?_
                  refine wk_region ?_
                  refine wo_val (v := (.int .i64 4)) (ap_add rfl rfl rfl) rfl rfl ?_
                  refine wm (.int .i64 4) rfl rfl rfl ?_
                  refine wo_nil ?_
                  refine wk_skip_seq ?_
                  refine wk_loop ?_
                  refine wk_seq ?_
                  refine wk_region ?_
                  refine wo_val (v := (.bool true)) (ap_cmp rfl rfl rfl rfl) rfl rfl ?_
                  refine wo_nil ?_
                  refine wk_skip_seq ?_
                  refine wk_seq ?_
                  refine wk_true (v := true) rfl rfl rfl ?_
                  refine wk_skip_seq ?_
                  refine wk_seq ?_
                  refine wk_block ?_
                  refine wk_seq ?_
                  refine wk_region ?_
                  refine wo_val (v := (.string ⟨⟨[62, 61]⟩⟩)) (ap_ixG (r := (.string ⟨⟨[62, 61]⟩⟩)) rfl rfl (by kernel_rfl)) rfl rfl ?_
                  refine wa (.string ⟨⟨[62, 61]⟩⟩) rfl rfl rfl ?_
                  refine wo_nil ?_
                  refine wk_skip_seq ?_
                  refine wk_seq ?_
                  refine wk_rcut 10 22 [] [(22, (.bool ((decide ((2 : Int) ≤ (s.length : Int))) && ((s.take 2) == [62, 61]))))] (fun H' => H' = H) ?_ ?_
                  · skip
                    refine wk_region ?_
                    refine wm (.string ⟨⟨s⟩⟩) rfl rfl rfl ?_
                    refine wo_val (v := (.int .i64 (s.length : Int))) (ap_lenS rfl rfl) rfl rfl ?_
                    refine wm (.string ⟨⟨[62, 61]⟩⟩) rfl rfl rfl ?_
                    refine wo_val (v := (.int .i64 2)) (ap_lenS (s := [62, 61]) rfl rfl) rfl rfl ?_
                    refine wo_val (v := (.bool (decide ((2 : Int) ≤ (s.length : Int))))) (ap_cmp rfl rfl rfl rfl) rfl rfl ?_
                    refine wm (.bool (decide ((2 : Int) ≤ (s.length : Int)))) rfl rfl rfl ?_
                    refine wo_gsT (v := (decide ((2 : Int) ≤ (s.length : Int)))) rfl rfl (fun g14 => ?_) (fun g14 => ?_)
                    · have pg14 := g14
                      try simp only [BS] at pg14
                      refine wm (.string ⟨⟨s⟩⟩) rfl rfl rfl ?_
                      refine wo_gt rfl g14 ?_
                      refine wm (.string ⟨⟨[62, 61]⟩⟩) rfl rfl rfl ?_
                      refine wo_gt rfl g14 ?_
                      refine wo_val (v := (.int .i64 2)) (ap_lenS (s := [62, 61]) rfl rfl) rfl rfl ?_
                      refine wo_gt rfl g14 ?_
                      refine wo_val (v := (.string ⟨⟨s.take 2⟩⟩)) (ap_slSt (j := 2) rfl rfl (optN (by decide)) (by first | omega | (show _ < 23; omega))) rfl rfl ?_
                      refine wo_gt rfl g14 ?_
                      refine wm (.string ⟨⟨[62, 61]⟩⟩) rfl rfl rfl ?_
                      refine wo_gt rfl g14 ?_
                      refine wo_val (v := (.bool ((s.take 2) == [62, 61]))) (ap_eqS rfl rfl) rfl rfl ?_
                      refine wo_val (v := (.bool ((s.take 2) == [62, 61]))) (ap_pickT rfl g14 rfl) rfl rfl ?_
                      refine wo_nil ?_
                      exact wk_skip_nil ⟨rfl, rfl, (Lu rfl (Lu rfl (Lu rfl (Lu rfl (Lu rfl (Lu rfl (Lu rfl (Lu rfl (Lu rfl (Lu rfl (Lu rfl (Lu rfl (Lu rfl Lr))))))))))))), (agC (congrArg Value.bool (show ((s.take 2) == [62, 61]) = ((decide ((2 : Int) ≤ (s.length : Int))) && ((s.take 2) == [62, 61])) by first | rfl | simp only [↓g14, BT] | grind)) agN)⟩
                    · have pg14 := g14
                      try simp only [BS] at pg14
                      refine wo_gf1 rfl g14 rfl ?_
                      refine wo_gf1 rfl g14 rfl ?_
                      refine wo_gf1 rfl g14 rfl ?_
                      refine wo_gf1 rfl g14 rfl ?_
                      refine wo_gf1 rfl g14 rfl ?_
                      refine wo_val (v := (.bool false)) (ap_pickF rfl g14 rfl) rfl rfl ?_
                      refine wo_nil ?_
                      exact wk_skip_nil ⟨rfl, rfl, (Lu rfl (Lu rfl (Lu rfl (Lu rfl (Lu rfl (Lu rfl (Lu rfl (Lu rfl (Lu rfl (Lu rfl (Lu rfl (Lu rfl (Lu rfl Lr))))))))))))), (agC (congrArg Value.bool (show false = ((decide ((2 : Int) ≤ (s.length : Int))) && ((s.take 2) == [62, 61])) by first | rfl | simp only [↓g14, BT] | grind)) agN)⟩
                  · skip
                    rintro g13 H rfl
                    refine wk_skip_seq ?_
                    refine wk_cond (v := ((decide ((2 : Int) ≤ (s.length : Int))) && ((s.take 2) == [62, 61]))) rfl rfl (fun c15b => ?_) (fun c15b => ?_)
                    · have c15 := c15b
                      try simp only [BS] at c15
                      have nn := (c15).2
                      refine wk_seq ?_
                      refine wk_region ?_
                      refine wm (.string ⟨⟨[62, 61]⟩⟩) rfl rfl rfl ?_
                      refine wo_val (v := (.int .i64 2)) (ap_lenS (s := [62, 61]) rfl rfl) rfl rfl ?_
                      refine wa (.int .i64 2) rfl rfl rfl ?_
                      refine wo_nil ?_
                      refine wk_skip_seq ?_
                      refine wk_ret ⟨.inr rfl, _, rfl, 2, rfl, rfl, (by simp only [symLen, *, ↓reduceIte, true_or, or_true])⟩
                    · have c15 := c15b
                      try simp only [BS] at c15
                      first | have nn := tk3 c15 | have nn := tk2 c15
                      refine wk_skip_block ?_
                      refine wk_skip_seq ?_
                      refine wk_region ?_
                      refine wo_val (v := (.int .i64 5)) (ap_add rfl rfl rfl) rfl rfl ?_
                      refine wm (.int .i64 5) rfl rfl rfl ?_
                      refine wo_nil ?_
                      refine wk_skip_seq ?_
                      refine wk_loop ?_
                      refine wk_seq ?_
                      refine wk_region ?_
                      refine wo_val (v := (.bool true)) (ap_cmp rfl rfl rfl rfl) rfl rfl ?_
                      refine wo_nil ?_
                      refine wk_skip_seq ?_
                      refine wk_seq ?_
                      refine wk_true (v := true) rfl rfl rfl ?_
                      refine wk_skip_seq ?_
                      refine wk_seq ?_
                      refine wk_block ?_
                      refine wk_seq ?_
                      refine wk_region ?_
                      refine wo_val (v := (.string ⟨⟨[61, 61]⟩⟩)) (ap_ixG (r := (.string ⟨⟨[61, 61]⟩⟩)) rfl rfl (by kernel_rfl)) rfl rfl ?_
                      refine wa (.string ⟨⟨[61, 61]⟩⟩) rfl rfl rfl ?_
                      refine wo_nil ?_
                      refine wk_skip_seq ?_
                      refine wk_seq ?_
                      refine wk_rcut 10 22 [] [(22, (.bool ((decide ((2 : Int) ≤ (s.length : Int))) && ((s.take 2) == [61, 61]))))] (fun H' => H' = H) ?_ ?_
                      · skip
                        refine wk_region ?_
                        refine wm (.string ⟨⟨s⟩⟩) rfl rfl rfl ?_
                        refine wo_val (v := (.int .i64 (s.length : Int))) (ap_lenS rfl rfl) rfl rfl ?_
                        refine wm (.string ⟨⟨[61, 61]⟩⟩) rfl rfl rfl ?_
                        refine wo_val (v := (.int .i64 2)) (ap_lenS (s := [61, 61]) rfl rfl) rfl rfl ?_
                        refine wo_val (v := (.bool (decide ((2 : Int) ≤ (s.length : Int))))) (ap_cmp rfl rfl rfl rfl) rfl rfl ?_
                        refine wm (.bool (decide ((2 : Int) ≤ (s.length : Int)))) rfl rfl rfl ?_
                        refine wo_gsT (v := (decide ((2 : Int) ≤ (s.length : Int)))) rfl rfl (fun g17 => ?_) (fun g17 => ?_)
                        · have pg17 := g17
                          try simp only [BS] at pg17
                          refine wm (.string ⟨⟨s⟩⟩) rfl rfl rfl ?_
                          refine wo_gt rfl g17 ?_
                          refine wm (.string ⟨⟨[61, 61]⟩⟩) rfl rfl rfl ?_
                          refine wo_gt rfl g17 ?_
                          refine wo_val (v := (.int .i64 2)) (ap_lenS (s := [61, 61]) rfl rfl) rfl rfl ?_
                          refine wo_gt rfl g17 ?_
                          refine wo_val (v := (.string ⟨⟨s.take 2⟩⟩)) (ap_slSt (j := 2) rfl rfl (optN (by decide)) (by first | omega | (show _ < 23; omega))) rfl rfl ?_
                          refine wo_gt rfl g17 ?_
                          refine wm (.string ⟨⟨[61, 61]⟩⟩) rfl rfl rfl ?_
                          refine wo_gt rfl g17 ?_
                          refine wo_val (v := (.bool ((s.take 2) == [61, 61]))) (ap_eqS rfl rfl) rfl rfl ?_
                          refine wo_val (v := (.bool ((s.take 2) == [61, 61]))) (ap_pickT rfl g17 rfl) rfl rfl ?_
                          refine wo_nil ?_
                          exact wk_skip_nil ⟨rfl, rfl, (Lu rfl (Lu rfl (Lu rfl (Lu rfl (Lu rfl (Lu rfl (Lu rfl (Lu rfl (Lu rfl (Lu rfl (Lu rfl (Lu rfl (Lu rfl Lr))))))))))))), (agC (congrArg Value.bool (show ((s.take 2) == [61, 61]) = ((decide ((2 : Int) ≤ (s.length : Int))) && ((s.take 2) == [61, 61])) by first | rfl | simp only [↓g17, BT] | grind)) agN)⟩
                        · have pg17 := g17
                          try simp only [BS] at pg17
                          refine wo_gf1 rfl g17 rfl ?_
                          refine wo_gf1 rfl g17 rfl ?_
                          refine wo_gf1 rfl g17 rfl ?_
                          refine wo_gf1 rfl g17 rfl ?_
                          refine wo_gf1 rfl g17 rfl ?_
                          refine wo_val (v := (.bool false)) (ap_pickF rfl g17 rfl) rfl rfl ?_
                          refine wo_nil ?_
                          exact wk_skip_nil ⟨rfl, rfl, (Lu rfl (Lu rfl (Lu rfl (Lu rfl (Lu rfl (Lu rfl (Lu rfl (Lu rfl (Lu rfl (Lu rfl (Lu rfl (Lu rfl (Lu rfl Lr))))))))))))), (agC (congrArg Value.bool (show false = ((decide ((2 : Int) ≤ (s.length : Int))) && ((s.take 2) == [61, 61])) by first | rfl | simp only [↓g17, BT] | grind)) agN)⟩
                      · skip
                        rintro g16 H rfl
                        refine wk_skip_seq ?_
                        refine wk_cond (v := ((decide ((2 : Int) ≤ (s.length : Int))) && ((s.take 2) == [61, 61]))) rfl rfl (fun c18b => ?_) (fun c18b => ?_)
                        · have c18 := c18b
                          try simp only [BS] at c18
                          have nn := (c18).2
                          refine wk_seq ?_
                          refine wk_region ?_
                          refine wm (.string ⟨⟨[61, 61]⟩⟩) rfl rfl rfl ?_
                          refine wo_val (v := (.int .i64 2)) (ap_lenS (s := [61, 61]) rfl rfl) rfl rfl ?_
                          refine wa (.int .i64 2) rfl rfl rfl ?_
                          refine wo_nil ?_
                          refine wk_skip_seq ?_
                          refine wk_ret ⟨.inr rfl, _, rfl, 2, rfl, rfl, (by simp only [symLen, *, ↓reduceIte, true_or, or_true])⟩
                        · have c18 := c18b
                          try simp only [BS] at c18
                          first | have nn := tk3 c18 | have nn := tk2 c18
                          refine wk_skip_block ?_
                          refine wk_skip_seq ?_
                          refine wk_region ?_
                          refine wo_val (v := (.int .i64 6)) (ap_add rfl rfl rfl) rfl rfl ?_
                          refine wm (.int .i64 6) rfl rfl rfl ?_
                          refine wo_nil ?_
                          refine wk_skip_seq ?_
                          refine wk_loop ?_
                          refine wk_seq ?_
                          refine wk_region ?_
                          refine wo_val (v := (.bool true)) (ap_cmp rfl rfl rfl rfl) rfl rfl ?_
                          refine wo_nil ?_
                          refine wk_skip_seq ?_
                          refine wk_seq ?_
                          refine wk_true (v := true) rfl rfl rfl ?_
                          refine wk_skip_seq ?_
                          refine wk_seq ?_
                          refine wk_block ?_
                          refine wk_seq ?_
                          refine wk_region ?_
                          refine wo_val (v := (.string ⟨⟨[33, 61]⟩⟩)) (ap_ixG (r := (.string ⟨⟨[33, 61]⟩⟩)) rfl rfl (by kernel_rfl)) rfl rfl ?_
                          refine wa (.string ⟨⟨[33, 61]⟩⟩) rfl rfl rfl ?_
                          refine wo_nil ?_
                          refine wk_skip_seq ?_
                          refine wk_seq ?_
                          refine wk_rcut 10 22 [] [(22, (.bool ((decide ((2 : Int) ≤ (s.length : Int))) && ((s.take 2) == [33, 61]))))] (fun H' => H' = H) ?_ ?_
                          · skip
                            refine wk_region ?_
                            refine wm (.string ⟨⟨s⟩⟩) rfl rfl rfl ?_
                            refine wo_val (v := (.int .i64 (s.length : Int))) (ap_lenS rfl rfl) rfl rfl ?_
                            refine wm (.string ⟨⟨[33, 61]⟩⟩) rfl rfl rfl ?_
                            refine wo_val (v := (.int .i64 2)) (ap_lenS (s := [33, 61]) rfl rfl) rfl rfl ?_
                            refine wo_val (v := (.bool (decide ((2 : Int) ≤ (s.length : Int))))) (ap_cmp rfl rfl rfl rfl) rfl rfl ?_
                            refine wm (.bool (decide ((2 : Int) ≤ (s.length : Int)))) rfl rfl rfl ?_
                            refine wo_gsT (v := (decide ((2 : Int) ≤ (s.length : Int)))) rfl rfl (fun g20 => ?_) (fun g20 => ?_)
                            · have pg20 := g20
                              try simp only [BS] at pg20
                              refine wm (.string ⟨⟨s⟩⟩) rfl rfl rfl ?_
                              refine wo_gt rfl g20 ?_
                              refine wm (.string ⟨⟨[33, 61]⟩⟩) rfl rfl rfl ?_
                              refine wo_gt rfl g20 ?_
                              refine wo_val (v := (.int .i64 2)) (ap_lenS (s := [33, 61]) rfl rfl) rfl rfl ?_
                              refine wo_gt rfl g20 ?_
                              refine wo_val (v := (.string ⟨⟨s.take 2⟩⟩)) (ap_slSt (j := 2) rfl rfl (optN (by decide)) (by first | omega | (show _ < 23; omega))) rfl rfl ?_
                              refine wo_gt rfl g20 ?_
                              refine wm (.string ⟨⟨[33, 61]⟩⟩) rfl rfl rfl ?_
                              refine wo_gt rfl g20 ?_
                              refine wo_val (v := (.bool ((s.take 2) == [33, 61]))) (ap_eqS rfl rfl) rfl rfl ?_
                              refine wo_val (v := (.bool ((s.take 2) == [33, 61]))) (ap_pickT rfl g20 rfl) rfl rfl ?_
                              refine wo_nil ?_
                              exact wk_skip_nil ⟨rfl, rfl, (Lu rfl (Lu rfl (Lu rfl (Lu rfl (Lu rfl (Lu rfl (Lu rfl (Lu rfl (Lu rfl (Lu rfl (Lu rfl (Lu rfl (Lu rfl Lr))))))))))))), (agC (congrArg Value.bool (show ((s.take 2) == [33, 61]) = ((decide ((2 : Int) ≤ (s.length : Int))) && ((s.take 2) == [33, 61])) by first | rfl | simp only [↓g20, BT] | grind)) agN)⟩
                            · have pg20 := g20
                              try simp only [BS] at pg20
                              refine wo_gf1 rfl g20 rfl ?_
                              refine wo_gf1 rfl g20 rfl ?_
                              refine wo_gf1 rfl g20 rfl ?_
                              refine wo_gf1 rfl g20 rfl ?_
                              refine wo_gf1 rfl g20 rfl ?_
                              refine wo_val (v := (.bool false)) (ap_pickF rfl g20 rfl) rfl rfl ?_
                              refine wo_nil ?_
                              exact wk_skip_nil ⟨rfl, rfl, (Lu rfl (Lu rfl (Lu rfl (Lu rfl (Lu rfl (Lu rfl (Lu rfl (Lu rfl (Lu rfl (Lu rfl (Lu rfl (Lu rfl (Lu rfl Lr))))))))))))), (agC (congrArg Value.bool (show false = ((decide ((2 : Int) ≤ (s.length : Int))) && ((s.take 2) == [33, 61])) by first | rfl | simp only [↓g20, BT] | grind)) agN)⟩
                          · skip
                            rintro g19 H rfl
                            refine wk_skip_seq ?_
                            refine wk_cond (v := ((decide ((2 : Int) ≤ (s.length : Int))) && ((s.take 2) == [33, 61]))) rfl rfl (fun c21b => ?_) (fun c21b => ?_)
                            · have c21 := c21b
                              try simp only [BS] at c21
                              have nn := (c21).2
                              refine wk_seq ?_
                              refine wk_region ?_
                              refine wm (.string ⟨⟨[33, 61]⟩⟩) rfl rfl rfl ?_
                              refine wo_val (v := (.int .i64 2)) (ap_lenS (s := [33, 61]) rfl rfl) rfl rfl ?_
                              refine wa (.int .i64 2) rfl rfl rfl ?_
                              refine wo_nil ?_
                              refine wk_skip_seq ?_
                              refine wk_ret ⟨.inr rfl, _, rfl, 2, rfl, rfl, (by simp only [symLen, *, ↓reduceIte, true_or, or_true])⟩
                            · have c21 := c21b
                              try simp only [BS] at c21
                              first | have nn := tk3 c21 | have nn := tk2 c21
                              refine wk_skip_block ?_
                              refine wk_skip_seq ?_
                              refine wk_region ?_
                              refine wo_val (v := (.int .i64 7)) (ap_add rfl rfl rfl) rfl rfl ?_
                              refine wm (.int .i64 7) rfl rfl rfl ?_
                              refine wo_nil ?_
                              refine wk_skip_seq ?_
                              refine wk_loop ?_
                              refine wk_seq ?_
                              refine wk_region ?_
                              refine wo_val (v := (.bool false)) (ap_cmp rfl rfl rfl rfl) rfl rfl ?_
                              refine wo_nil ?_
                              refine wk_skip_seq ?_
                              refine wk_seq ?_
                              refine wk_false (v := false) rfl rfl rfl ?_
                              refine wk_exit_seq ?_
                              refine wk_exit_seq ?_
                              refine wk_exit_block ?_
                              refine wk_skip_seq ?_
                              refine wk_seq ?_
                              refine wk_seq ?_
                              refine wk_region ?_
                              refine wa (.int .i64 0) rfl rfl rfl ?_
                              refine wo_nil ?_
                              refine wk_skip_seq ?_
                              refine wk_block ?_
                              refine wk_loop_inv (fun (mm : Nat) f H' => ∃ (i : Nat), H' = H ∧ agrees f [(0, (.string ⟨⟨s⟩⟩)), (5, (.int .i64 (i : Int)))] ∧ mm = 23 - i ∧ (i ≤ 23) ∧ (∀ j, j < i → s.getD 0 0 ≠ singles.getD j 0)) _ ⟨0, rfl, (agC rfl (agC rfl agN)), rfl, (by first | assumption | omega | (simp at *; omega)), (by intro j hj; omega)⟩ ?_
                              rintro mm22 f22 H ⟨i, rfl, hf22, rfl, h1, h2⟩ ih22
                              refine wk_canon _ hf22 (fun gg22 => ?_)
                              clear hf22
                              refine wk_seq ?_
                              refine wk_seq ?_
                              refine wk_region ?_
                              refine wm (.int .i64 (i : Int)) rfl rfl rfl ?_
                              refine wo_val (v := (.bool (decide ((i : Int) < 23)))) (ap_cmp rfl rfl rfl rfl) rfl rfl ?_
                              refine wo_nil ?_
                              refine wk_skip_seq ?_
                              refine wk_cond (v := (decide ((i : Int) < 23))) rfl rfl (fun c23b => ?_) (fun c23b => ?_)
                              · have c23 := c23b
                                try simp only [BS] at c23
                                refine wk_skip_seq ?_
                                refine wk_seq ?_
                                refine wk_block ?_
                                refine wk_seq ?_
                                refine wf_region rfl ?_
                                refine fm (.string ⟨⟨s⟩⟩) rfl rfl rfl ?_
                                have u8_24 := u8_lt (s.getD 0 0)
                                refine wf_pure (v := (.int .u8 ((s.getD 0 0).toNat : Int))) (id := .v) (ap_idxS (j := 0) rfl rfl rfl (by decide) (getD_at (by first | omega | (show _ < 23; omega)))) rfl rfl (did_v rfl) (okD_v _) ?_
                                refine fm (.int .i64 (i : Int)) rfl rfl rfl ?_
                                have u8_25 := u8_lt (([43, 45, 42, 47, 37, 38, 124, 94, 126, 33, 60, 62, 61, 63, 58, 59, 44, 40, 41, 123, 125, 91, 93] : List UInt8).getD i 0)
                                refine wf_pure (v := (.int .u8 ((([43, 45, 42, 47, 37, 38, 124, 94, 126, 33, 60, 62, 61, 63, 58, 59, 44, 40, 41, 123, 125, 91, 93] : List UInt8).getD i 0).toNat : Int))) (id := .v) (ap_idxS (j := (i : Int)) rfl rfl rfl (by first | omega | (show _ < 23; omega)) (getD_at (by first | omega | (show _ < 23; omega)))) rfl rfl (did_v rfl) (okD_v _) ?_
                                refine wf_pure (v := (.bool (((s.getD 0 0).toNat : Int) == ((([43, 45, 42, 47, 37, 38, 124, 94, 126, 33, 60, 62, 61, 63, 58, 59, 44, 40, 41, 123, 125, 91, 93] : List UInt8).getD i 0).toNat : Int)))) (id := .v) (ap_cmp rfl rfl rfl rfl) rfl rfl (did_v rfl) (okD_v _) ?_
                                refine wf_nil ?_
                                refine wk_skip_seq ?_
                                refine wk_cond (v := (((s.getD 0 0).toNat : Int) == ((([43, 45, 42, 47, 37, 38, 124, 94, 126, 33, 60, 62, 61, 63, 58, 59, 44, 40, 41, 123, 125, 91, 93] : List UInt8).getD i 0).toNat : Int))) rfl rfl (fun c26b => ?_) (fun c26b => ?_)
                                · have c26 := c26b
                                  try simp only [BS] at c26
                                  have ci := c26
                                  refine wk_seq ?_
                                  refine wk_region ?_
                                  refine wa (.int .i64 1) rfl rfl rfl ?_
                                  refine wo_nil ?_
                                  refine wk_skip_seq ?_
                                  refine wk_ret ⟨.inr rfl, _, rfl, 1, rfl, rfl, (by have ms := sing_mem (by omega) ci; simp only [symLen, *, ↓reduceIte, or_self])⟩
                                · have c26 := c26b
                                  try simp only [BS] at c26
                                  have ci := c26
                                  refine wk_skip_block ?_
                                  refine wk_skip_seq ?_
                                  refine wk_region ?_
                                  refine wm (.int .i64 (i : Int)) rfl rfl rfl ?_
                                  refine wo_val (v := (.int .i64 ((i : Int) + 1))) (ap_add rfl rfl (w_i64 (n := (i : Int) + 1) (by first | omega | (show _ < 23; omega)))) rfl rfl ?_
                                  refine wa (.int .i64 ((i : Int) + 1)) rfl rfl rfl ?_
                                  refine wo_nil ?_
                                  refine wk_skip_seq ?_
                                  refine ih22 _ _ _ ?_ ⟨i + 1, rfl, (agC rfl (agC rfl agN)), rfl, (by first | assumption | omega | (simp at *; omega)), (by exact fun j hj => sing_ne ci h2 hj)⟩
                                  omega
                              · have c23 := c23b
                                try simp only [BS] at c23
                                refine wk_exit_seq ?_
                                refine wk_exit_seq ?_
                                refine wk_exit_block ?_
                                refine wk_skip_seq ?_
                                refine wk_seq ?_
                                refine wk_region ?_
                                refine wa (.int .i64 0) rfl rfl rfl ?_
                                refine wo_nil ?_
                                refine wk_skip_seq ?_
                                refine wk_ret ⟨.inr rfl, _, rfl, 0, rfl, rfl, (by have ms := sing_no (fun j hj => h2 j (by omega)); simp only [symLen, *, ↓reduceIte, or_self])⟩

def spl : Bool → List UInt8 → Nat
  | _, [] => 0
  | false, c :: s => if c = 32 ∨ c = 9 ∨ c = 10 ∨ c = 13 then 1 + spl false s else if c = 35 then 1 + spl true s else 0
  | true, c :: s => if c = 10 then 1 + spl false s else 1 + spl true s
theorem spl_le : ∀ (s : List UInt8) (b : Bool), spl b s ≤ s.length
  | [], b => by simp [spl]
  | c :: s, false => by
    have h1 := spl_le s false; have h2 := spl_le s true
    rw [spl, List.length_cons]; split
    · omega
    · split <;> omega
  | c :: s, true => by
    have h1 := spl_le s false; have h2 := spl_le s true
    rw [spl, List.length_cons]; split <;> omega
theorem dropc {s : List UInt8} {n : Nat} (h : n < s.length) : s.drop n = s.getD n 0 :: s.drop (n + 1) := by
  rw [List.drop_eq_getElem_cons h, List.getD_eq_getElem?_getD, List.getElem?_eq_getElem h]; rfl
theorem u8i {c : UInt8} {k : Nat} (hk : k < 256) (h : (c.toNat : Int) = (k : Int)) : c = UInt8.ofNat k := by
  apply UInt8.toNat_inj.mp
  rw [UInt8.toNat_ofNat']
  omega
theorem u8e {c : UInt8} (k : Nat) (h : c = UInt8.ofNat k) (hk : k < 256 := by omega) : (c.toNat : Int) = (k : Int) := by
  rw [h, UInt8.toNat_ofNat']; omega
theorem spE {b : Bool} {s : List UInt8} {n : Nat} (h : ¬ n < s.length) (hn : n ≤ s.length) (e : n + spl b (s.drop n) = spl false s) : n = spl false s := by
  rw [List.drop_of_length_le (by omega)] at e
  simpa [spl] using e
theorem spA {s : List UInt8} {n : Nat} (h : n < s.length) (c : s.getD n 0 = 32 ∨ s.getD n 0 = 9 ∨ s.getD n 0 = 10 ∨ s.getD n 0 = 13) (e : n + spl false (s.drop n) = spl false s) : n + 1 + spl false (s.drop (n + 1)) = spl false s := by
  rw [dropc h, spl, if_pos c] at e; omega
theorem spH {s : List UInt8} {n : Nat} (h : n < s.length) (c : s.getD n 0 = 35) (e : n + spl false (s.drop n) = spl false s) : n + spl true (s.drop n) = spl false s := by
  rw [dropc h, spl, if_neg (by rw [c]; decide), if_pos c] at e
  rw [dropc h, spl, if_neg (by rw [c]; decide)]; exact e
theorem spT {s : List UInt8} {n : Nat} (h : n < s.length) (c : s.getD n 0 ≠ 10) (e : n + spl true (s.drop n) = spl false s) : n + 1 + spl true (s.drop (n + 1)) = spl false s := by
  rw [dropc h, spl, if_neg c] at e; omega
theorem spN {s : List UInt8} {n : Nat} (hn : n ≤ s.length) (c : n < s.length → s.getD n 0 = 10) (e : n + spl true (s.drop n) = spl false s) : n + spl false (s.drop n) = spl false s := by
  by_cases h : n < s.length
  · rw [dropc h, spl, if_pos (c h)] at e
    rw [dropc h, spl, if_pos (.inr (.inr (.inl (c h))))]; exact e
  · rw [List.drop_of_length_le (by omega)] at e ⊢; exact e
theorem spX {s : List UInt8} {n : Nat} (h : n < s.length) (c : ¬(s.getD n 0 = 32 ∨ s.getD n 0 = 9 ∨ s.getD n 0 = 10 ∨ s.getD n 0 = 13)) (c2 : s.getD n 0 ≠ 35) (e : n + spl false (s.drop n) = spl false s) : n = spl false s := by
  rw [dropc h, spl, if_neg c, if_neg c2] at e; exact e

theorem spaceLen_c (ex : FuncId) (s : List UInt8) (H : Heap) (hl : s.length < 4611686018427387904) : C Try.prog 0 (KX ex) 40 [(.string ⟨⟨s⟩⟩)] H fun v H' => ∃ (r : Nat), H' = H ∧ v = .int .i64 (r : Int) ∧ r = spl false s := by
  refine c_enter Try.func40 rfl rfl ?_
  refine wk_seq ?_
  refine wk_region ?_
  refine wa (.int .i64 0) rfl rfl rfl ?_
  refine wo_nil ?_
  refine wk_skip_seq ?_
  refine wk_seq ?_
  refine wk_region ?_
  refine wa (.int .i64 0) rfl rfl rfl ?_
  refine wo_nil ?_
  refine wk_skip_seq ?_
  refine wk_seq ?_
  refine wk_block ?_
  refine wk_loop_inv (fun (mm : Nat) f H' => ∃ (n : Nat), H' = H ∧ agrees f [(0, (.string ⟨⟨s⟩⟩)), (3, (.int .i64 (n : Int)))] ∧ mm = s.length - n ∧ (n ≤ s.length) ∧ (n + spl false (s.drop n) = spl false s)) _ ⟨0, rfl, (agC rfl (agC rfl agN)), rfl, (by first | assumption | omega | (simp at *; omega)), (by simp)⟩ ?_
  rintro mm1 f1 H ⟨n, rfl, hf1, rfl, h1, h2⟩ ih1
  refine wk_canon _ hf1 (fun gg1 => ?_)
  clear hf1
  refine wk_seq ?_
  refine wk_seq ?_
  refine wk_region ?_
  refine wm (.int .i64 (n : Int)) rfl rfl rfl ?_
  refine wm (.string ⟨⟨s⟩⟩) rfl rfl rfl ?_
  refine wo_val (v := (.int .i64 (s.length : Int))) (ap_lenS rfl rfl) rfl rfl ?_
  refine wo_val (v := (.bool (decide ((n : Int) < (s.length : Int))))) (ap_cmp rfl rfl rfl rfl) rfl rfl ?_
  refine wo_nil ?_
  refine wk_skip_seq ?_
  refine wk_cond (v := (decide ((n : Int) < (s.length : Int)))) rfl rfl (fun c2b => ?_) (fun c2b => ?_)
  · have c2 := c2b
    try simp only [BS] at c2
    refine wk_skip_seq ?_
    refine wk_block ?_
    refine wk_seq ?_
    refine wk_region ?_
    refine wm (.string ⟨⟨s⟩⟩) rfl rfl rfl ?_
    refine wm (.int .i64 (n : Int)) rfl rfl rfl ?_
    have u8_3 := u8_lt (s.getD n 0)
    refine wo_val (v := (.int .u8 ((s.getD n 0).toNat : Int))) (ap_idxS (j := (n : Int)) rfl rfl rfl (by omega) (getD_at (by omega))) rfl rfl ?_
    refine wo_nil ?_
    refine wk_skip_seq ?_
    refine wk_block ?_
    refine wk_seq ?_
    refine wk_seq ?_
    refine wk_region ?_
    refine wo_val (v := (.bool (((s.getD n 0).toNat : Int) == 32))) (ap_cmp rfl rfl rfl rfl) rfl rfl ?_
    refine wa (.bool (((s.getD n 0).toNat : Int) == 32)) rfl rfl rfl ?_
    refine wo_nil ?_
    refine wk_skip_seq ?_
    refine wk_cond (v := (((s.getD n 0).toNat : Int) == 32)) rfl rfl (fun c4b => ?_) (fun c4b => ?_)
    · have c4 := c4b
      try simp only [BS] at c4
      refine wk_skip_seq ?_
      refine wk_true (v := (((s.getD n 0).toNat : Int) == 32)) rfl c4b rfl ?_
      refine wk_region ?_
      refine wm (.int .i64 (n : Int)) rfl rfl rfl ?_
      refine wo_val (v := (.int .i64 ((n : Int) + 1))) (ap_add rfl rfl (w_i64 (n := (n : Int) + 1) (by omega))) rfl rfl ?_
      refine wa (.int .i64 ((n : Int) + 1)) rfl rfl rfl ?_
      refine wo_nil ?_
      refine wk_skip_block ?_
      refine wk_skip_block ?_
      refine wk_skip_seq ?_
      refine ih1 _ _ _ ?_ ⟨n + 1, rfl, (agC rfl (agC rfl agN)), rfl, (by first | assumption | omega | (simp at *; omega)), (by first | exact spA (by omega) (.inl (u8i (k := 32) (by omega) (by omega))) h2 | exact spA (by omega) (.inr (.inl (u8i (k := 9) (by omega) (by omega)))) h2 | exact spA (by omega) (.inr (.inr (.inl (u8i (k := 10) (by omega) (by omega))))) h2 | exact spA (by omega) (.inr (.inr (.inr (u8i (k := 13) (by omega) (by omega))))) h2 | exact spN g1 (fun h => (u8i (k := 10) (by omega) (by omega))) g2)⟩
      omega
    · have c4 := c4b
      try simp only [BS] at c4
      refine wk_seq ?_
      refine wk_region ?_
      refine wo_val (v := (.bool (((s.getD n 0).toNat : Int) == 9))) (ap_cmp rfl rfl rfl rfl) rfl rfl ?_
      refine wa (.bool (((s.getD n 0).toNat : Int) == 9)) rfl rfl rfl ?_
      refine wo_nil ?_
      refine wk_skip_seq ?_
      refine wk_cond (v := (((s.getD n 0).toNat : Int) == 9)) rfl rfl (fun c5b => ?_) (fun c5b => ?_)
      · have c5 := c5b
        try simp only [BS] at c5
        refine wk_skip_seq ?_
        refine wk_true (v := (((s.getD n 0).toNat : Int) == 9)) rfl c5b rfl ?_
        refine wk_region ?_
        refine wm (.int .i64 (n : Int)) rfl rfl rfl ?_
        refine wo_val (v := (.int .i64 ((n : Int) + 1))) (ap_add rfl rfl (w_i64 (n := (n : Int) + 1) (by omega))) rfl rfl ?_
        refine wa (.int .i64 ((n : Int) + 1)) rfl rfl rfl ?_
        refine wo_nil ?_
        refine wk_skip_block ?_
        refine wk_skip_block ?_
        refine wk_skip_seq ?_
        refine ih1 _ _ _ ?_ ⟨n + 1, rfl, (agC rfl (agC rfl agN)), rfl, (by first | assumption | omega | (simp at *; omega)), (by first | exact spA (by omega) (.inl (u8i (k := 32) (by omega) (by omega))) h2 | exact spA (by omega) (.inr (.inl (u8i (k := 9) (by omega) (by omega)))) h2 | exact spA (by omega) (.inr (.inr (.inl (u8i (k := 10) (by omega) (by omega))))) h2 | exact spA (by omega) (.inr (.inr (.inr (u8i (k := 13) (by omega) (by omega))))) h2 | exact spN g1 (fun h => (u8i (k := 10) (by omega) (by omega))) g2)⟩
        omega
      · have c5 := c5b
        try simp only [BS] at c5
        refine wk_seq ?_
        refine wk_region ?_
        refine wo_val (v := (.bool (((s.getD n 0).toNat : Int) == 10))) (ap_cmp rfl rfl rfl rfl) rfl rfl ?_
        refine wa (.bool (((s.getD n 0).toNat : Int) == 10)) rfl rfl rfl ?_
        refine wo_nil ?_
        refine wk_skip_seq ?_
        refine wk_cond (v := (((s.getD n 0).toNat : Int) == 10)) rfl rfl (fun c6b => ?_) (fun c6b => ?_)
        · have c6 := c6b
          try simp only [BS] at c6
          refine wk_skip_seq ?_
          refine wk_true (v := (((s.getD n 0).toNat : Int) == 10)) rfl c6b rfl ?_
          refine wk_region ?_
          refine wm (.int .i64 (n : Int)) rfl rfl rfl ?_
          refine wo_val (v := (.int .i64 ((n : Int) + 1))) (ap_add rfl rfl (w_i64 (n := (n : Int) + 1) (by omega))) rfl rfl ?_
          refine wa (.int .i64 ((n : Int) + 1)) rfl rfl rfl ?_
          refine wo_nil ?_
          refine wk_skip_block ?_
          refine wk_skip_block ?_
          refine wk_skip_seq ?_
          refine ih1 _ _ _ ?_ ⟨n + 1, rfl, (agC rfl (agC rfl agN)), rfl, (by first | assumption | omega | (simp at *; omega)), (by first | exact spA (by omega) (.inl (u8i (k := 32) (by omega) (by omega))) h2 | exact spA (by omega) (.inr (.inl (u8i (k := 9) (by omega) (by omega)))) h2 | exact spA (by omega) (.inr (.inr (.inl (u8i (k := 10) (by omega) (by omega))))) h2 | exact spA (by omega) (.inr (.inr (.inr (u8i (k := 13) (by omega) (by omega))))) h2 | exact spN g1 (fun h => (u8i (k := 10) (by omega) (by omega))) g2)⟩
          omega
        · have c6 := c6b
          try simp only [BS] at c6
          refine wk_region ?_
          refine wo_val (v := (.bool (((s.getD n 0).toNat : Int) == 13))) (ap_cmp rfl rfl rfl rfl) rfl rfl ?_
          refine wa (.bool (((s.getD n 0).toNat : Int) == 13)) rfl rfl rfl ?_
          refine wo_nil ?_
          refine wk_skip_seq ?_
          refine wk_cond (v := (((s.getD n 0).toNat : Int) == 13)) rfl rfl (fun c7b => ?_) (fun c7b => ?_)
          · have c7 := c7b
            try simp only [BS] at c7
            refine wk_region ?_
            refine wm (.int .i64 (n : Int)) rfl rfl rfl ?_
            refine wo_val (v := (.int .i64 ((n : Int) + 1))) (ap_add rfl rfl (w_i64 (n := (n : Int) + 1) (by omega))) rfl rfl ?_
            refine wa (.int .i64 ((n : Int) + 1)) rfl rfl rfl ?_
            refine wo_nil ?_
            refine wk_skip_block ?_
            refine wk_skip_block ?_
            refine wk_skip_seq ?_
            refine ih1 _ _ _ ?_ ⟨n + 1, rfl, (agC rfl (agC rfl agN)), rfl, (by first | assumption | omega | (simp at *; omega)), (by first | exact spA (by omega) (.inl (u8i (k := 32) (by omega) (by omega))) h2 | exact spA (by omega) (.inr (.inl (u8i (k := 9) (by omega) (by omega)))) h2 | exact spA (by omega) (.inr (.inr (.inl (u8i (k := 10) (by omega) (by omega))))) h2 | exact spA (by omega) (.inr (.inr (.inr (u8i (k := 13) (by omega) (by omega))))) h2 | exact spN g1 (fun h => (u8i (k := 10) (by omega) (by omega))) g2)⟩
            omega
          · have c7 := c7b
            try simp only [BS] at c7
            refine wk_seq ?_
            refine wk_region ?_
            refine wo_val (v := (.bool (((s.getD n 0).toNat : Int) == 35))) (ap_cmp rfl rfl rfl rfl) rfl rfl ?_
            refine wa (.bool (((s.getD n 0).toNat : Int) == 35)) rfl rfl rfl ?_
            refine wo_nil ?_
            refine wk_skip_seq ?_
            refine wk_cond (v := (((s.getD n 0).toNat : Int) == 35)) rfl rfl (fun c8b => ?_) (fun c8b => ?_)
            · have c8 := c8b
              try simp only [BS] at c8
              refine wk_block ?_
              refine wk_loop_inv (fun (mm : Nat) f H' => ∃ (m : Nat), H' = H ∧ agrees f [(0, (.string ⟨⟨s⟩⟩)), (3, (.int .i64 (m : Int))), (4, (.int .i64 (n : Int))), (5, (.string ⟨⟨s⟩⟩)), (6, (.int .i64 (s.length : Int))), (7, (.bool (decide ((n : Int) < (s.length : Int))))), (8, (.string ⟨⟨s⟩⟩)), (9, (.int .i64 (n : Int))), (10, (.int .u8 ((s.getD n 0).toNat : Int))), (12, (.bool (((s.getD n 0).toNat : Int) == 13))), (13, (.bool (((s.getD n 0).toNat : Int) == 32))), (14, (.bool (((s.getD n 0).toNat : Int) == 9))), (15, (.bool (((s.getD n 0).toNat : Int) == 10))), (16, (.bool (((s.getD n 0).toNat : Int) == 13))), (19, (.bool (((s.getD n 0).toNat : Int) == 35))), (20, (.bool (((s.getD n 0).toNat : Int) == 35)))] ∧ mm = s.length - m ∧ (m ≤ s.length) ∧ (m + spl true (s.drop m) = spl false s) ∧ (n ≤ m)) _ ⟨n, rfl, (agC rfl (agC rfl (agC rfl (agC rfl (agC rfl (agC rfl (agC rfl (agC rfl (agC rfl (agC rfl (agC rfl (agC rfl (agC rfl (agC rfl (agC rfl (agC rfl agN)))))))))))))))), rfl, (by first | assumption | omega | (simp at *; omega)), (by exact spH (by omega) (u8i (k := 35) (by omega) (by omega)) h2), (by first | assumption | omega | (simp at *; omega))⟩ ?_
              rintro mm9 f9 H ⟨m, rfl, hf9, rfl, g1, g2, g3⟩ ih9
              refine wk_canon _ hf9 (fun gg9 => ?_)
              clear hf9
              refine wk_seq ?_
              refine wk_seq ?_
              refine wk_rcut 21 30 [] [(30, (.bool ((decide ((m : Int) < (s.length : Int))) && (((s.getD m 0).toNat : Int) != 10))))] (fun H' => H' = H) ?_ ?_
              · skip
                refine wk_region ?_
                refine wm (.int .i64 (m : Int)) rfl rfl rfl ?_
                refine wm (.string ⟨⟨s⟩⟩) rfl rfl rfl ?_
                refine wo_val (v := (.int .i64 (s.length : Int))) (ap_lenS rfl rfl) rfl rfl ?_
                refine wo_val (v := (.bool (decide ((m : Int) < (s.length : Int))))) (ap_cmp rfl rfl rfl rfl) rfl rfl ?_
                refine wm (.bool (decide ((m : Int) < (s.length : Int)))) rfl rfl rfl ?_
                refine wo_gsT (v := (decide ((m : Int) < (s.length : Int)))) rfl rfl (fun g11 => ?_) (fun g11 => ?_)
                · have pg11 := g11
                  try simp only [BS] at pg11
                  refine wm (.string ⟨⟨s⟩⟩) rfl rfl rfl ?_
                  refine wo_gt rfl g11 ?_
                  refine wm (.int .i64 (m : Int)) rfl rfl rfl ?_
                  refine wo_gt rfl g11 ?_
                  have u8_12 := u8_lt (s.getD m 0)
                  refine wo_val (v := (.int .u8 ((s.getD m 0).toNat : Int))) (ap_idxS (j := (m : Int)) rfl rfl rfl (by omega) (getD_at (by omega))) rfl rfl ?_
                  refine wo_gt rfl g11 ?_
                  refine wo_val (v := (.bool (((s.getD m 0).toNat : Int) != 10))) (ap_cmp rfl rfl rfl rfl) rfl rfl ?_
                  refine wo_val (v := (.bool (((s.getD m 0).toNat : Int) != 10))) (ap_pickT rfl g11 rfl) rfl rfl ?_
                  refine wo_nil ?_
                  exact wk_skip_nil ⟨rfl, rfl, (Lu rfl (Lu rfl (Lu rfl (Lu rfl (Lu rfl (Lu rfl (Lu rfl (Lu rfl (Lu rfl (Lu rfl Lr)))))))))), (agC (congrArg Value.bool (show (((s.getD m 0).toNat : Int) != 10) = ((decide ((m : Int) < (s.length : Int))) && (((s.getD m 0).toNat : Int) != 10)) by first | rfl | simp only [↓g11, BT] | grind)) agN)⟩
                · have pg11 := g11
                  try simp only [BS] at pg11
                  refine wo_gf1 rfl g11 rfl ?_
                  refine wo_gf1 rfl g11 rfl ?_
                  refine wo_gf1 rfl g11 rfl ?_
                  refine wo_val (v := (.bool false)) (ap_pickF rfl g11 rfl) rfl rfl ?_
                  refine wo_nil ?_
                  exact wk_skip_nil ⟨rfl, rfl, (Lu rfl (Lu rfl (Lu rfl (Lu rfl (Lu rfl (Lu rfl (Lu rfl (Lu rfl (Lu rfl (Lu rfl Lr)))))))))), (agC (congrArg Value.bool (show false = ((decide ((m : Int) < (s.length : Int))) && (((s.getD m 0).toNat : Int) != 10)) by first | rfl | simp only [↓g11, BT] | grind)) agN)⟩
              · skip
                rintro g10 H rfl
                refine wk_skip_seq ?_
                refine wk_cond (v := ((decide ((m : Int) < (s.length : Int))) && (((s.getD m 0).toNat : Int) != 10))) rfl rfl (fun c13b => ?_) (fun c13b => ?_)
                · have c13 := c13b
                  try simp only [BS] at c13
                  refine wk_skip_seq ?_
                  refine wk_block ?_
                  refine wk_region ?_
                  refine wm (.int .i64 (m : Int)) rfl rfl rfl ?_
                  refine wo_val (v := (.int .i64 ((m : Int) + 1))) (ap_add rfl rfl (w_i64 (n := (m : Int) + 1) (by omega))) rfl rfl ?_
                  refine wa (.int .i64 ((m : Int) + 1)) rfl rfl rfl ?_
                  refine wo_nil ?_
                  refine wk_skip_block ?_
                  refine wk_skip_seq ?_
                  refine ih9 _ _ _ ?_ ⟨m + 1, rfl, (agC rfl (agC rfl (agC rfl (agC rfl (agC rfl (agC rfl (agC rfl (agC rfl (agC rfl (agC rfl (agC rfl (agC rfl (agC rfl (agC rfl (agC rfl (agC rfl agN)))))))))))))))), rfl, (by first | assumption | omega | (simp at *; omega)), (by exact spT (by omega) (fun h => by have := u8e 10 h; omega) g2), (by first | assumption | omega | (simp at *; omega))⟩
                  omega
                · have c13 := c13b
                  try simp only [BS] at c13
                  have gm : n < m := by
                    rcases Nat.lt_or_ge n m with h | h
                    · exact h
                    · exfalso; have e : m = n := by omega
                      subst e; omega
                  refine wk_exit_seq ?_
                  refine wk_exit_seq ?_
                  refine wk_exit_block ?_
                  refine wk_skip_block ?_
                  refine wk_skip_block ?_
                  refine wk_skip_seq ?_
                  refine ih1 _ _ _ ?_ ⟨m, rfl, (agC rfl (agC rfl agN)), rfl, (by first | assumption | omega | (simp at *; omega)), (by first | exact spA (by omega) (.inl (u8i (k := 32) (by omega) (by omega))) h2 | exact spA (by omega) (.inr (.inl (u8i (k := 9) (by omega) (by omega)))) h2 | exact spA (by omega) (.inr (.inr (.inl (u8i (k := 10) (by omega) (by omega))))) h2 | exact spA (by omega) (.inr (.inr (.inr (u8i (k := 13) (by omega) (by omega))))) h2 | exact spN g1 (fun h => (u8i (k := 10) (by omega) (by omega))) g2)⟩
                  omega
            · have c8 := c8b
              try simp only [BS] at c8
              refine wk_seq ?_
              refine wk_region ?_
              refine wm (.int .i64 (n : Int)) rfl rfl rfl ?_
              refine wa (.int .i64 (n : Int)) rfl rfl rfl ?_
              refine wo_nil ?_
              refine wk_skip_seq ?_
              refine wk_ret ⟨.inr rfl, _, rfl, n, rfl, rfl, (by first | exact spX (by omega) (by rintro (h | h | h | h) <;> (first | (have := u8e 32 h; omega) | (have := u8e 9 h; omega) | (have := u8e 10 h; omega) | (have := u8e 13 h; omega))) (fun h => by have := u8e 35 h; omega) h2 | exact spE (by omega) h1 h2)⟩
  · have c2 := c2b
    try simp only [BS] at c2
    refine wk_exit_seq ?_
    refine wk_exit_seq ?_
    refine wk_exit_block ?_
    refine wk_skip_seq ?_
    refine wk_seq ?_
    refine wk_region ?_
    refine wm (.int .i64 (n : Int)) rfl rfl rfl ?_
    refine wa (.int .i64 (n : Int)) rfl rfl rfl ?_
    refine wo_nil ?_
    refine wk_skip_seq ?_
    refine wk_ret ⟨.inr rfl, _, rfl, n, rfl, rfl, (by first | exact spX (by omega) (by rintro (h | h | h | h) <;> (first | (have := u8e 32 h; omega) | (have := u8e 9 h; omega) | (have := u8e 10 h; omega) | (have := u8e 13 h; omega))) (fun h => by have := u8e 35 h; omega) h2 | exact spE (by omega) h1 h2)⟩

/-- kind, text and error of the token at the beginning of a text -/
def firstK (s : List UInt8) : Int × List UInt8 × Int :=
  if wordLen s = 0 then (if symLen s = 0 then (0, [], 2) else (3, s.take (symLen s), 0))
  else if isDigB (s.getD 0 0) = true then (if validNum (s.take (wordLen s)) = true then (2, s.take (wordLen s), 0) else (0, [], 2))
  else if 16 < wordLen s then (0, [], 6) else (1, s.take (wordLen s), 0)
theorem symLen_le {s : List UInt8} (h0 : 0 < s.length) : symLen s ≤ s.length := by
  have l3 : ∀ {w : List UInt8} {n : Nat}, s.take n = w → w.length = n → n ≤ s.length := by
    intro w n e hw
    have := congrArg List.length e
    rw [List.length_take] at this; omega
  rw [symLen]; split
  · exact l3 ‹_› rfl
  · split
    · rename_i h; rcases h with h | h | h | h | h | h <;> exact l3 h rfl
    · split <;> omega

theorem first_c (ex : FuncId) (s : List UInt8) {F : Fz} {H : Heap} {R : List Fp} (hs : HS (.of H []) F H [] R) (h0 : 0 < s.length) (hl : s.length < 4611686018427387904) : C Try.prog 0 (KX ex) 41 [(.string ⟨⟨s⟩⟩)] H fun v H' => ∃ (t : Token) (e : Int) (F' : Fz), Fz.le F F' ∧ HS (.of H []) F' H' [] R ∧ v = .tuple ⟨[.agg ⟨[.int .i64 t.kind, .string ⟨⟨t.text.b⟩⟩, .int .i64 t.at_]⟩, .int .i64 e]⟩ ∧ in64 t.kind ∧ in64 t.at_ ∧ t = Token.mk (firstK s).1 (Str.mk (firstK s).2.1) 0 ∧ e = (firstK s).2.2 := by
  have hw := wordLen_le s
  have hy := symLen_le h0
  refine c_enter Try.func41 rfl rfl ?_
  refine wk_seq ?_
  refine wk_region ?_
  refine wo_rs (rs_new hs rfl) rfl rfl ?_
  rintro _ H2 _ ⟨b1, rfl, hs2, _⟩
  have hs2 : HS (Base.of H []) F H2 [[(b1, .cells [(.int .i64 0), (.string ⟨⟨[]⟩⟩), (.int .i64 0)] none false)]] R := hs2
  refine wa (.int .i64 0) rfl rfl rfl ?_
  refine wo_nil ?_
  refine wk_skip_seq ?_
  refine wk_seq ?_
  refine wk_region ?_
  refine wm (.string ⟨⟨s⟩⟩) rfl rfl rfl ?_
  refine wo_call (ap_call rfl rfl rfl) rfl rfl (wordLen_c ex s _ (by first | omega | (dsimp only; omega) | (rw [List.length_take]; omega))) ?_
  rintro _ H2 ⟨r3, rfl, rfl, rfl⟩
  refine wa (.int .i64 ((wordLen s : Nat) : Int)) rfl rfl rfl ?_
  refine wo_nil ?_
  refine wk_skip_seq ?_
  refine wk_seq ?_
  refine wk_block ?_
  refine wk_seq ?_
  refine wk_region ?_
  refine wm (.int .i64 ((wordLen s : Nat) : Int)) rfl rfl rfl ?_
  refine wo_val (v := (.bool (((wordLen s : Nat) : Int) == 0))) (ap_cmp rfl rfl rfl rfl) rfl rfl ?_
  refine wa (.bool (((wordLen s : Nat) : Int) == 0)) rfl rfl rfl ?_
  refine wo_nil ?_
  refine wk_skip_seq ?_
  refine wk_cond (v := (((wordLen s : Nat) : Int) == 0)) rfl rfl (fun c4b => ?_) (fun c4b => ?_)
  · have c4 := c4b
    try simp only [BS] at c4
    have z0 : wordLen s = 0 := by omega
    refine wk_seq ?_
    refine wk_seq ?_
    refine wk_region ?_
    refine wm (.string ⟨⟨s⟩⟩) rfl rfl rfl ?_
    refine wo_call (ap_call rfl rfl rfl) rfl rfl (symLen_c ex s _ (by first | omega | (dsimp only; omega) | (rw [List.length_take]; omega))) ?_
    rintro _ H2 ⟨r5, rfl, rfl, rfl⟩
    refine wa (.int .i64 ((symLen s : Nat) : Int)) rfl rfl rfl ?_
    refine wo_nil ?_
    refine wk_skip_seq ?_
    refine wk_seq ?_
    refine wk_region ?_
    refine wm (.int .i64 ((symLen s : Nat) : Int)) rfl rfl rfl ?_
    refine wo_val (v := (.bool (((symLen s : Nat) : Int) == 0))) (ap_cmp rfl rfl rfl rfl) rfl rfl ?_
    refine wo_nil ?_
    refine wk_skip_seq ?_
    refine wk_cond (v := (((symLen s : Nat) : Int) == 0)) rfl rfl (fun c6b => ?_) (fun c6b => ?_)
    · have c6 := c6b
      try simp only [BS] at c6
      have z1 : symLen s = 0 := by omega
      refine wk_seq ?_
      refine wk_region ?_
      refine wo_val (v := (.agg ⟨[(.int .i64 0), (.string ⟨⟨[]⟩⟩), (.int .i64 0)]⟩)) (ap_bld rfl rfl (by kernel_rfl)) rfl rfl ?_
      refine wo_rk (rs_rec (q := 0) hs2 rfl rfl rfl rfl rfl rfl rfl rfl rfl) rfl ?_
      rintro _ H7 _ ⟨hs7, _⟩
      have hs7 : HS (Base.of H []) F H7 [[(b1, .cells [(.int .i64 0), (.string ⟨⟨[]⟩⟩), (.int .i64 0)] none false)]] R := hs7
      refine wa (.int .i64 2) rfl rfl rfl ?_
      refine wo_nil ?_
      refine wk_skip_seq ?_
      refine wk_ret ⟨.inr rfl, _, (rC rfl (ldVN rfl rfl (HS.hc hs7 (i := 0) rfl) rfl) (rT rfl rN)), (⟨0, ⟨[]⟩, 0⟩ : Token), 2, _, (Fz.le_refl _), (HS.forget hs7), rfl, (by first | omega | (dsimp only; omega) | (rw [List.length_take]; omega)), (by first | omega | (dsimp only; omega) | (rw [List.length_take]; omega)), (by simp only [firstK, *, ↓reduceIte, Bool.false_eq_true, not_false_eq_true]), (by simp only [firstK, *, ↓reduceIte, Bool.false_eq_true, not_false_eq_true])⟩
    · have c6 := c6b
      try simp only [BS] at c6
      have z1 : ¬ symLen s = 0 := by omega
      refine wk_skip_seq ?_
      refine wk_seq ?_
      refine wk_region ?_
      refine wm (.string ⟨⟨s⟩⟩) rfl rfl rfl ?_
      refine wm (.int .i64 ((symLen s : Nat) : Int)) rfl rfl rfl ?_
      refine wo_val (v := (.string ⟨⟨s.take (symLen s)⟩⟩)) (ap_slSt (j := symLen s) rfl rfl (optN (by first | omega | (dsimp only; omega) | (rw [List.length_take]; omega))) (by first | omega | (dsimp only; omega) | (rw [List.length_take]; omega))) rfl rfl ?_
      refine wo_val (v := (.agg ⟨[(.int .i64 3), (.string ⟨⟨s.take (symLen s)⟩⟩), (.int .i64 0)]⟩)) (ap_bld rfl rfl (by kernel_rfl)) rfl rfl ?_
      refine wo_rk (rs_rec (q := 0) hs2 rfl rfl rfl rfl rfl rfl rfl rfl rfl) rfl ?_
      rintro _ H8 _ ⟨hs8, _⟩
      have hs8 : HS (Base.of H []) F H8 [[(b1, .cells [(.int .i64 3), (.string ⟨⟨s.take (symLen s)⟩⟩), (.int .i64 0)] none false)]] R := hs8
      refine wa (.int .i64 0) rfl rfl rfl ?_
      refine wo_nil ?_
      refine wk_skip_seq ?_
      refine wk_ret ⟨.inr rfl, _, (rC rfl (ldVN rfl rfl (HS.hc hs8 (i := 0) rfl) rfl) (rT rfl rN)), (⟨3, ⟨s.take (symLen s)⟩, 0⟩ : Token), 0, _, (Fz.le_refl _), (HS.forget hs8), rfl, (by first | omega | (dsimp only; omega) | (rw [List.length_take]; omega)), (by first | omega | (dsimp only; omega) | (rw [List.length_take]; omega)), (by simp only [firstK, *, ↓reduceIte, Bool.false_eq_true, not_false_eq_true]), (by simp only [firstK, *, ↓reduceIte, Bool.false_eq_true, not_false_eq_true])⟩
  · have c4 := c4b
    try simp only [BS] at c4
    have z0 : ¬ wordLen s = 0 := by omega
    refine wk_seq ?_
    refine wk_region ?_
    refine wm (.string ⟨⟨s⟩⟩) rfl rfl rfl ?_
    have u8_9 := u8_lt (s.getD 0 0)
    refine wo_val (v := (.int .u8 ((s.getD 0 0).toNat : Int))) (ap_idxS (j := 0) rfl rfl rfl (by decide) (getD_at (by first | omega | (dsimp only; omega) | (rw [List.length_take]; omega)))) rfl rfl ?_
    refine wo_call (ap_call rfl rfl rfl) rfl rfl (isDigit_c ex (s.getD 0 0) _) ?_
    rintro _ H2 ⟨r10, rfl, rfl, rfl⟩
    refine wa (.bool (isDigB (s.getD 0 0))) rfl rfl rfl ?_
    refine wo_nil ?_
    refine wk_skip_seq ?_
    refine wk_cond (v := (isDigB (s.getD 0 0))) rfl rfl (fun c11b => ?_) (fun c11b => ?_)
    · have c11 := c11b
      try simp only [BS] at c11
      have z2 : isDigB (s.getD 0 0) = true := c11
      refine wk_seq ?_
      refine wk_seq ?_
      refine wk_region ?_
      refine wm (.string ⟨⟨s⟩⟩) rfl rfl rfl ?_
      refine wm (.int .i64 ((wordLen s : Nat) : Int)) rfl rfl rfl ?_
      refine wo_val (v := (.string ⟨⟨s.take (wordLen s)⟩⟩)) (ap_slSt (j := wordLen s) rfl rfl (optN (by first | omega | (dsimp only; omega) | (rw [List.length_take]; omega))) (by first | omega | (dsimp only; omega) | (rw [List.length_take]; omega))) rfl rfl ?_
      refine wo_call (ap_call rfl rfl rfl) rfl rfl (validNum_c ex (s.take (wordLen s)) _ (by first | omega | (dsimp only; omega) | (rw [List.length_take]; omega)) (by first | omega | (dsimp only; omega) | (rw [List.length_take]; omega))) ?_
      rintro _ H2 ⟨r12, rfl, rfl, rfl⟩
      refine wo_val (v := (.bool (!(validNum (s.take (wordLen s)))))) (ap_not rfl) rfl rfl ?_
      refine wo_nil ?_
      refine wk_skip_seq ?_
      refine wk_cond (v := (!(validNum (s.take (wordLen s))))) rfl rfl (fun c13b => ?_) (fun c13b => ?_)
      · have c13 := c13b
        try simp only [BS] at c13
        have z3 : validNum (s.take (wordLen s)) = false := by simpa using c13
        refine wk_seq ?_
        refine wk_region ?_
        refine wo_val (v := (.agg ⟨[(.int .i64 0), (.string ⟨⟨[]⟩⟩), (.int .i64 0)]⟩)) (ap_bld rfl rfl (by kernel_rfl)) rfl rfl ?_
        refine wo_rk (rs_rec (q := 0) hs2 rfl rfl rfl rfl rfl rfl rfl rfl rfl) rfl ?_
        rintro _ H14 _ ⟨hs14, _⟩
        have hs14 : HS (Base.of H []) F H14 [[(b1, .cells [(.int .i64 0), (.string ⟨⟨[]⟩⟩), (.int .i64 0)] none false)]] R := hs14
        refine wa (.int .i64 2) rfl rfl rfl ?_
        refine wo_nil ?_
        refine wk_skip_seq ?_
        refine wk_ret ⟨.inr rfl, _, (rC rfl (ldVN rfl rfl (HS.hc hs14 (i := 0) rfl) rfl) (rT rfl rN)), (⟨0, ⟨[]⟩, 0⟩ : Token), 2, _, (Fz.le_refl _), (HS.forget hs14), rfl, (by first | omega | (dsimp only; omega) | (rw [List.length_take]; omega)), (by first | omega | (dsimp only; omega) | (rw [List.length_take]; omega)), (by simp only [firstK, *, ↓reduceIte, Bool.false_eq_true, not_false_eq_true]), (by simp only [firstK, *, ↓reduceIte, Bool.false_eq_true, not_false_eq_true])⟩
      · have c13 := c13b
        try simp only [BS] at c13
        have z3 : validNum (s.take (wordLen s)) = true := by simpa using c13
        refine wk_skip_seq ?_
        refine wk_seq ?_
        refine wk_region ?_
        refine wm (.string ⟨⟨s⟩⟩) rfl rfl rfl ?_
        refine wm (.int .i64 ((wordLen s : Nat) : Int)) rfl rfl rfl ?_
        refine wo_val (v := (.string ⟨⟨s.take (wordLen s)⟩⟩)) (ap_slSt (j := wordLen s) rfl rfl (optN (by first | omega | (dsimp only; omega) | (rw [List.length_take]; omega))) (by first | omega | (dsimp only; omega) | (rw [List.length_take]; omega))) rfl rfl ?_
        refine wo_val (v := (.agg ⟨[(.int .i64 2), (.string ⟨⟨s.take (wordLen s)⟩⟩), (.int .i64 0)]⟩)) (ap_bld rfl rfl (by kernel_rfl)) rfl rfl ?_
        refine wo_rk (rs_rec (q := 0) hs2 rfl rfl rfl rfl rfl rfl rfl rfl rfl) rfl ?_
        rintro _ H15 _ ⟨hs15, _⟩
        have hs15 : HS (Base.of H []) F H15 [[(b1, .cells [(.int .i64 2), (.string ⟨⟨s.take (wordLen s)⟩⟩), (.int .i64 0)] none false)]] R := hs15
        refine wa (.int .i64 0) rfl rfl rfl ?_
        refine wo_nil ?_
        refine wk_skip_seq ?_
        refine wk_ret ⟨.inr rfl, _, (rC rfl (ldVN rfl rfl (HS.hc hs15 (i := 0) rfl) rfl) (rT rfl rN)), (⟨2, ⟨s.take (wordLen s)⟩, 0⟩ : Token), 0, _, (Fz.le_refl _), (HS.forget hs15), rfl, (by first | omega | (dsimp only; omega) | (rw [List.length_take]; omega)), (by first | omega | (dsimp only; omega) | (rw [List.length_take]; omega)), (by simp only [firstK, *, ↓reduceIte, Bool.false_eq_true, not_false_eq_true]), (by simp only [firstK, *, ↓reduceIte, Bool.false_eq_true, not_false_eq_true])⟩
    · have c11 := c11b
      try simp only [BS] at c11
      have z2 : isDigB (s.getD 0 0) = false := c11
      refine wk_seq ?_
      refine wk_region ?_
      refine wm (.int .i64 ((wordLen s : Nat) : Int)) rfl rfl rfl ?_
      refine wo_val (v := (.bool (decide ((16 : Int) < ((wordLen s : Nat) : Int))))) (ap_cmp rfl rfl rfl rfl) rfl rfl ?_
      refine wa (.bool (decide ((16 : Int) < ((wordLen s : Nat) : Int)))) rfl rfl rfl ?_
      refine wo_nil ?_
      refine wk_skip_seq ?_
      refine wk_cond (v := (decide ((16 : Int) < ((wordLen s : Nat) : Int)))) rfl rfl (fun c16b => ?_) (fun c16b => ?_)
      · have c16 := c16b
        try simp only [BS] at c16
        have z4 : 16 < wordLen s := by omega
        refine wk_seq ?_
        refine wk_region ?_
        refine wo_val (v := (.agg ⟨[(.int .i64 0), (.string ⟨⟨[]⟩⟩), (.int .i64 0)]⟩)) (ap_bld rfl rfl (by kernel_rfl)) rfl rfl ?_
        refine wo_rk (rs_rec (q := 0) hs2 rfl rfl rfl rfl rfl rfl rfl rfl rfl) rfl ?_
        rintro _ H17 _ ⟨hs17, _⟩
        have hs17 : HS (Base.of H []) F H17 [[(b1, .cells [(.int .i64 0), (.string ⟨⟨[]⟩⟩), (.int .i64 0)] none false)]] R := hs17
        refine wa (.int .i64 6) rfl rfl rfl ?_
        refine wo_nil ?_
        refine wk_skip_seq ?_
        refine wk_ret ⟨.inr rfl, _, (rC rfl (ldVN rfl rfl (HS.hc hs17 (i := 0) rfl) rfl) (rT rfl rN)), (⟨0, ⟨[]⟩, 0⟩ : Token), 6, _, (Fz.le_refl _), (HS.forget hs17), rfl, (by first | omega | (dsimp only; omega) | (rw [List.length_take]; omega)), (by first | omega | (dsimp only; omega) | (rw [List.length_take]; omega)), (by simp only [firstK, *, ↓reduceIte, Bool.false_eq_true, not_false_eq_true]), (by simp only [firstK, *, ↓reduceIte, Bool.false_eq_true, not_false_eq_true])⟩
      · have c16 := c16b
        try simp only [BS] at c16
        have z4 : ¬ 16 < wordLen s := by omega
        refine wk_skip_block ?_
        refine wk_skip_seq ?_
        refine wk_seq ?_
        refine wk_region ?_
        refine wm (.string ⟨⟨s⟩⟩) rfl rfl rfl ?_
        refine wm (.int .i64 ((wordLen s : Nat) : Int)) rfl rfl rfl ?_
        refine wo_val (v := (.string ⟨⟨s.take (wordLen s)⟩⟩)) (ap_slSt (j := wordLen s) rfl rfl (optN (by first | omega | (dsimp only; omega) | (rw [List.length_take]; omega))) (by first | omega | (dsimp only; omega) | (rw [List.length_take]; omega))) rfl rfl ?_
        refine wo_val (v := (.agg ⟨[(.int .i64 1), (.string ⟨⟨s.take (wordLen s)⟩⟩), (.int .i64 0)]⟩)) (ap_bld rfl rfl (by kernel_rfl)) rfl rfl ?_
        refine wo_rk (rs_rec (q := 0) hs2 rfl rfl rfl rfl rfl rfl rfl rfl rfl) rfl ?_
        rintro _ H18 _ ⟨hs18, _⟩
        have hs18 : HS (Base.of H []) F H18 [[(b1, .cells [(.int .i64 1), (.string ⟨⟨s.take (wordLen s)⟩⟩), (.int .i64 0)] none false)]] R := hs18
        refine wa (.int .i64 0) rfl rfl rfl ?_
        refine wo_nil ?_
        refine wk_skip_seq ?_
        refine wk_ret ⟨.inr rfl, _, (rC rfl (ldVN rfl rfl (HS.hc hs18 (i := 0) rfl) rfl) (rT rfl rN)), (⟨1, ⟨s.take (wordLen s)⟩, 0⟩ : Token), 0, _, (Fz.le_refl _), (HS.forget hs18), rfl, (by first | omega | (dsimp only; omega) | (rw [List.length_take]; omega)), (by first | omega | (dsimp only; omega) | (rw [List.length_take]; omega)), (by simp only [firstK, *, ↓reduceIte, Bool.false_eq_true, not_false_eq_true]), (by simp only [firstK, *, ↓reduceIte, Bool.false_eq_true, not_false_eq_true])⟩

theorem take_len {s : List UInt8} {n : Nat} (h : n ≤ s.length) : (s.take n).length = n := by rw [List.length_take]; omega
theorem firstK_len {s : List UInt8} (h0 : 0 < s.length) : (firstK s).2.1.length ≤ s.length ∧ ((firstK s).2.2 = 0 → 0 < (firstK s).2.1.length) ∧ 0 ≤ (firstK s).2.2 ∧ (firstK s).2.2 < 10 := by
  have hw := wordLen_le s
  have hy := symLen_le h0
  have l1 := take_len hw
  have l2 := take_len hy
  rw [firstK]
  split
  · split
    · simp
    · dsimp only; omega
  · split
    · split
      · dsimp only; omega
      · simp
    · split
      · simp
      · dsimp only; omega
abbrev Sc := List Token × Int × Int
def consT (t : Token) (r : Sc) : Sc := if r.2.1 = 0 then (t :: r.1, r.2) else r
def preT (l : List Token) (r : Sc) : Sc := if r.2.1 = 0 then (l ++ r.1, r.2) else r
def scanN : Nat → List UInt8 → Nat → Sc
  | 0, _, _ => ([], 0, 0)
  | f + 1, s, at_ =>
    if at_ < s.length then
      if (firstK (s.drop at_)).2.2 = 0 then
        consT ⟨(firstK (s.drop at_)).1, ⟨(firstK (s.drop at_)).2.1⟩, at_⟩ (scanN f s (at_ + (firstK (s.drop at_)).2.1.length + spl false (s.drop (at_ + (firstK (s.drop at_)).2.1.length))))
      else ([], (firstK (s.drop at_)).2.2, at_)
    else ([], 0, 0)
def scanS (s : List UInt8) : Sc := if 20000 < s.length then ([], 6, 20000) else scanN (s.length + 1) s (spl false s)
theorem pre_cons (l : List Token) (t : Token) (r : Sc) : preT l (consT t r) = preT (l ++ [t]) r := by
  unfold preT consT
  by_cases h : r.2.1 = 0
  · simp [h]
  · simp [h]
theorem pre_nil (r : Sc) : preT [] r = r := by unfold preT; split <;> rfl
theorem scan_step {s : List UInt8} {at_ f : Nat} {l : List Token} {R : Sc} (h : at_ < s.length) (hf : s.length - at_ < f) (e : (firstK (s.drop at_)).2.2 = 0) (h2 : preT l (scanN f s at_) = R) :
    preT (l ++ [⟨(firstK (s.drop at_)).1, ⟨(firstK (s.drop at_)).2.1⟩, at_⟩]) (scanN (f - 1) s (at_ + (firstK (s.drop at_)).2.1.length + spl false (s.drop (at_ + (firstK (s.drop at_)).2.1.length)))) = R := by
  obtain ⟨g, rfl⟩ : ∃ g, f = g + 1 := ⟨f - 1, by omega⟩
  rw [scanN, if_pos h, if_pos e, pre_cons] at h2
  exact h2
theorem scan_err {s : List UInt8} {at_ f : Nat} {l : List Token} {R : Sc} (h : at_ < s.length) (hf : s.length - at_ < f) (e : (firstK (s.drop at_)).2.2 ≠ 0) (h2 : preT l (scanN f s at_) = R) : R = ([], (firstK (s.drop at_)).2.2, (at_ : Int)) := by
  obtain ⟨g, rfl⟩ : ∃ g, f = g + 1 := ⟨f - 1, by omega⟩
  rw [scanN, if_pos h, if_neg e, preT, if_neg (by exact e)] at h2
  exact h2.symm
theorem scan_end {s : List UInt8} {at_ f : Nat} {l : List Token} {R : Sc} (h : ¬ at_ < s.length) (h2 : preT l (scanN f s at_) = R) : R = (l, 0, 0) := by
  have : scanN f s at_ = ([], 0, 0) := by
    cases f with
    | zero => rfl
    | succ f => rw [scanN, if_neg h]
  rw [this, preT, if_pos rfl, List.append_nil] at h2
  exact h2.symm

theorem scan_c (ex : FuncId) (s : List UInt8) {F : Fz} {H : Heap} {R : List Fp} (hs : HS (.of H []) F H [] R) (hl : s.length < 4611686018427387904) : C Try.prog 0 (KX ex) 22 [(.string ⟨⟨s⟩⟩)] H fun v H' => ∃ (al : Option Addr) (kl : Nat) (l : List Token) (p : Fp) (e : ErrT) (F' : Fz), Fz.le F F' ∧ HS (.of H []) F' H' [p] R ∧ v = .tuple ⟨[.slice al l.length kl, .agg ⟨[.int .i64 e.why, .int .i64 e.at_]⟩]⟩ ∧ OS F' (.slice al l.length kl) l p ∧ in64 e.why ∧ in64 e.at_ ∧ l = (scanS s).1 ∧ e = ErrT.mk (scanS s).2.1 (scanS s).2.2 := by
  refine c_enter Try.func22 rfl rfl ?_
  refine wk_seq ?_
  refine wk_region ?_
  refine wa (.slice none 0 0) rfl rfl rfl ?_
  refine wo_rs (rs_new hs rfl) rfl rfl ?_
  rintro _ H2 _ ⟨b1, rfl, hs2, _⟩
  have hs2 : HS (Base.of H []) F H2 [[(b1, .cells [(.int .i64 0), (.int .i64 0)] none false)]] R := hs2
  refine wo_nil ?_
  refine wk_skip_seq ?_
  refine wk_seq ?_
  refine wk_seq ?_
  refine wk_region ?_
  refine wm (.string ⟨⟨s⟩⟩) rfl rfl rfl ?_
  refine wo_val (v := (.int .i64 (s.length : Int))) (ap_lenS rfl rfl) rfl rfl ?_
  refine wo_val (v := (.bool (decide ((20000 : Int) < (s.length : Int))))) (ap_cmp rfl rfl rfl rfl) rfl rfl ?_
  refine wo_nil ?_
  refine wk_skip_seq ?_
  refine wk_cond (v := (decide ((20000 : Int) < (s.length : Int)))) rfl rfl (fun c3b => ?_) (fun c3b => ?_)
  · have c3 := c3b
    try simp only [BS] at c3
    refine wk_seq ?_
    refine wk_region ?_
    refine wo_val (v := (.agg ⟨[(.int .i64 6), (.int .i64 20000)]⟩)) (ap_bld rfl rfl (by kernel_rfl)) rfl rfl ?_
    refine wa (.slice none 0 0) rfl rfl rfl ?_
    refine wo_rk (rs_rec (q := 0) hs2 rfl rfl rfl rfl rfl rfl rfl rfl rfl) rfl ?_
    rintro _ H4 _ ⟨hs4, _⟩
    have hs4 : HS (Base.of H []) F H4 [[(b1, .cells [(.int .i64 6), (.int .i64 20000)] none false)]] R := hs4
    refine wo_nil ?_
    refine wk_skip_seq ?_
    refine wk_ret ⟨.inr rfl, _, (rT rfl (rC rfl (ldVN rfl rfl (HS.hc hs4 (i := 0) rfl) rfl) rN)), none, 0, ([] : List Token), [], (⟨6, 20000⟩ : ErrT), _, (Fz.le_refl _), (HS.cons (HS.forget hs4)), rfl, (OS.nil : OS _ _ _ []), (by first | omega | (dsimp only; omega) | (rw [List.length_drop]; omega)), (by first | omega | (dsimp only; omega) | (rw [List.length_drop]; omega)), (by rw [scanS, if_pos (by omega)]), (by rw [scanS, if_pos (by omega)])⟩
  · have c3 := c3b
    try simp only [BS] at c3
    refine wk_skip_seq ?_
    refine wk_seq ?_
    refine wk_region ?_
    refine wa (.slice none 0 0) rfl rfl rfl ?_
    refine wo_nil ?_
    refine wk_skip_seq ?_
    refine wk_seq ?_
    refine wk_seq ?_
    refine wk_region ?_
    refine wm (.string ⟨⟨s⟩⟩) rfl rfl rfl ?_
    refine wo_call (ap_call rfl rfl rfl) rfl rfl (spaceLen_c ex s _ (by first | omega | (dsimp only; omega) | (rw [List.length_drop]; omega))) ?_
    rintro _ H2 ⟨r5, rfl, rfl, rfl⟩
    refine wa (.int .i64 ((spl false s : Nat) : Int)) rfl rfl rfl ?_
    refine wo_nil ?_
    refine wk_skip_seq ?_
    refine wk_block ?_
    have hs7 := HS.snoc hs2
    have hs7 : HS (Base.of H []) F H2 [[(b1, .cells [(.int .i64 0), (.int .i64 0)] none false)], []] R := hs7
    refine wk_loop_inv (fun (mm : Nat) f H' => ∃ (at_ : Nat) (l : List Token) (fu : Nat) (la6_4 : Option Addr) (lk6_4 : Nat) (lp6_4 : Fp) (F' : Fz), Fz.le F F' ∧ HS (Base.of H []) F' H' [[(b1, .cells [(.int .i64 0), (.int .i64 0)] none false)], lp6_4] R ∧ OS F' (.slice la6_4 l.length lk6_4) l lp6_4 ∧ agrees f [(0, (.string ⟨⟨s⟩⟩)), (3, (.pointer (some ⟨b1, 0, none⟩))), (4, (.slice la6_4 l.length lk6_4)), (5, (.int .i64 (at_ : Int)))] ∧ mm = s.length - at_ ∧ (at_ ≤ s.length) ∧ (s.length - at_ < fu) ∧ (preT l (scanN fu s at_) = scanS s) ∧ (l.length ≤ at_)) _ ⟨spl false s, ([] : List Token), s.length + 1, none, 0, [], _, (Fz.le_refl _), hs7, (OS.nil : OS F (.slice none 0 0) ([] : List Token) []), (agC rfl (agC rfl (agC rfl (agC rfl agN)))), rfl, (by exact spl_le s false), (by omega), (by rw [scanS, if_neg (by omega)]; (first | done | exact pre_nil _)), (by exact Nat.zero_le _)⟩ ?_
    rintro mm6 f6 H6 ⟨at_, l, fu, la6_4, lk6_4, lp6_4, F6, hF6, hs6, lh6_4, hf6, rfl, h1, hf, h2, h3⟩ ih6
    refine wk_canon _ hf6 (fun gg6 => ?_)
    clear hf6
    refine wk_seq ?_
    refine wk_seq ?_
    refine wk_region ?_
    refine wm (.int .i64 (at_ : Int)) rfl rfl rfl ?_
    refine wm (.string ⟨⟨s⟩⟩) rfl rfl rfl ?_
    refine wo_val (v := (.int .i64 (s.length : Int))) (ap_lenS rfl rfl) rfl rfl ?_
    refine wo_val (v := (.bool (decide ((at_ : Int) < (s.length : Int))))) (ap_cmp rfl rfl rfl rfl) rfl rfl ?_
    refine wo_nil ?_
    refine wk_skip_seq ?_
    refine wk_cond (v := (decide ((at_ : Int) < (s.length : Int)))) rfl rfl (fun c8b => ?_) (fun c8b => ?_)
    · have c8 := c8b
      try simp only [BS] at c8
      have hd : (s.drop at_).length = s.length - at_ := List.length_drop ..
      have q := firstK_len (s := s.drop at_) (by omega)
      have sp := spl_le (s.drop (at_ + (firstK (s.drop at_)).2.1.length)) false
      rw [List.length_drop] at sp
      refine wk_skip_seq ?_
      refine wk_seq ?_
      refine wk_block ?_
      refine wk_seq ?_
      refine wk_region ?_
      refine wm (.string ⟨⟨s⟩⟩) rfl rfl rfl ?_
      refine wm (.int .i64 (at_ : Int)) rfl rfl rfl ?_
      refine wo_val (v := (.string ⟨⟨s.drop at_⟩⟩)) (ap_slSd (i := at_) rfl rfl (optN (by first | omega | (dsimp only; omega) | (rw [List.length_drop]; omega))) (by first | omega | (dsimp only; omega) | (rw [List.length_drop]; omega))) rfl rfl ?_
      refine wo_call (ap_call rfl rfl rfl) rfl rfl (first_c ex (s.drop at_) (HS.call hs6) (by first | omega | (dsimp only; omega) | (rw [List.length_drop]; omega)) (by first | omega | (dsimp only; omega) | (rw [List.length_drop]; omega))) ?_
      rintro _ H9 ⟨t9, e9, F9, hF9, hs9, rfl, hgt9_0, hgt9_2, rfl, rfl⟩
      replace hs9 := HS.back hs6 rfl hs9
      have hs9 : HS (Base.of H []) F9 H9 [[(b1, .cells [(.int .i64 0), (.int .i64 0)] none false)], lp6_4] R := hs9
      replace lh6_4 := lh6_4.mono hF9
      refine wm (.tuple ⟨[(.agg ⟨[(.int .i64 ((Token.mk (firstK (s.drop at_)).1 (Str.mk (firstK (s.drop at_)).2.1) 0).kind)), (.string ⟨⟨(Token.mk (firstK (s.drop at_)).1 (Str.mk (firstK (s.drop at_)).2.1) 0).text.b⟩⟩), (.int .i64 ((Token.mk (firstK (s.drop at_)).1 (Str.mk (firstK (s.drop at_)).2.1) 0).at_))]⟩), (.int .i64 ((firstK (s.drop at_)).2.2))]⟩) rfl rfl rfl ?_
      refine wo_val (v := (.agg ⟨[(.int .i64 ((Token.mk (firstK (s.drop at_)).1 (Str.mk (firstK (s.drop at_)).2.1) 0).kind)), (.string ⟨⟨(Token.mk (firstK (s.drop at_)).1 (Str.mk (firstK (s.drop at_)).2.1) 0).text.b⟩⟩), (.int .i64 ((Token.mk (firstK (s.drop at_)).1 (Str.mk (firstK (s.drop at_)).2.1) 0).at_))]⟩)) (ap_ex rfl rfl) rfl rfl ?_
      refine wo_val (v := (.int .i64 ((firstK (s.drop at_)).2.2))) (ap_ex rfl rfl) rfl rfl ?_
      refine wo_rs (rs_new hs9 rfl) rfl rfl ?_
      rintro _ H11 _ ⟨b10, rfl, hs11, _⟩
      have hs11 : HS (Base.of H []) F9 H11 [[(b1, .cells [(.int .i64 0), (.int .i64 0)] none false)], lp6_4, [(b10, .cells [(.int .i64 0), (.string ⟨⟨[]⟩⟩), (.int .i64 0)] none false)]] R := hs11
      refine wo_rk (rs_rec (q := 2) hs11 rfl rfl rfl rfl rfl rfl rfl rfl rfl) rfl ?_
      rintro _ H12 _ ⟨hs12, _⟩
      have hs12 : HS (Base.of H []) F9 H12 [[(b1, .cells [(.int .i64 0), (.int .i64 0)] none false)], lp6_4, [(b10, .cells [(.int .i64 ((Token.mk (firstK (s.drop at_)).1 (Str.mk (firstK (s.drop at_)).2.1) 0).kind)), (.string ⟨⟨(Token.mk (firstK (s.drop at_)).1 (Str.mk (firstK (s.drop at_)).2.1) 0).text.b⟩⟩), (.int .i64 ((Token.mk (firstK (s.drop at_)).1 (Str.mk (firstK (s.drop at_)).2.1) 0).at_))] none false)]] R := hs12
      refine wa (.int .i64 ((firstK (s.drop at_)).2.2)) rfl rfl rfl ?_
      refine wo_nil ?_
      refine wk_skip_seq ?_
      refine wk_seq ?_
      refine wk_seq ?_
      refine wk_region ?_
      refine wm (.int .i64 ((firstK (s.drop at_)).2.2)) rfl rfl rfl ?_
      refine wo_val (v := (.bool ((firstK (s.drop at_)).2.2 != 0))) (ap_cmp rfl rfl rfl rfl) rfl rfl ?_
      refine wo_nil ?_
      refine wk_skip_seq ?_
      refine wk_cond (v := ((firstK (s.drop at_)).2.2 != 0)) rfl rfl (fun c13b => ?_) (fun c13b => ?_)
      · have c13 := c13b
        try simp only [BS] at c13
        refine wk_seq ?_
        refine wk_region ?_
        refine wm (.int .i64 ((firstK (s.drop at_)).2.2)) rfl rfl rfl ?_
        refine wm (.int .i64 (at_ : Int)) rfl rfl rfl ?_
        refine wo_val (v := (.agg ⟨[(.int .i64 ((firstK (s.drop at_)).2.2)), (.int .i64 (at_ : Int))]⟩)) (ap_bld rfl rfl (by kernel_rfl)) rfl rfl ?_
        refine wa (.slice none 0 0) rfl rfl rfl ?_
        refine wo_rk (rs_rec (q := 0) hs12 rfl rfl rfl rfl rfl rfl rfl rfl rfl) rfl ?_
        rintro _ H14 _ ⟨hs14, _⟩
        have hs14 : HS (Base.of H []) F9 H14 [[(b1, .cells [(.int .i64 ((firstK (s.drop at_)).2.2)), (.int .i64 (at_ : Int))] none false)], lp6_4, [(b10, .cells [(.int .i64 ((Token.mk (firstK (s.drop at_)).1 (Str.mk (firstK (s.drop at_)).2.1) 0).kind)), (.string ⟨⟨(Token.mk (firstK (s.drop at_)).1 (Str.mk (firstK (s.drop at_)).2.1) 0).text.b⟩⟩), (.int .i64 ((Token.mk (firstK (s.drop at_)).1 (Str.mk (firstK (s.drop at_)).2.1) 0).at_))] none false)]] R := hs14
        refine wo_nil ?_
        refine wk_skip_seq ?_
        refine wk_ret ⟨.inr rfl, _, (rT rfl (rC rfl (ldVN rfl rfl (HS.hc hs14 (i := 0) rfl) rfl) rN)), none, 0, ([] : List Token), [], (⟨(firstK (s.drop at_)).2.2, (at_ : Int)⟩ : ErrT), _, (Fz.le_trans (hF6) hF9), (HS.cons (HS.forget hs14)), rfl, (OS.nil : OS _ _ _ []), (by first | omega | (dsimp only; omega) | (rw [List.length_drop]; omega)), (by first | omega | (dsimp only; omega) | (rw [List.length_drop]; omega)), (by rw [scan_err (by omega) hf (by omega) h2]), (by rw [scan_err (by omega) hf (by omega) h2])⟩
      · have c13 := c13b
        try simp only [BS] at c13
        refine wk_skip_seq ?_
        refine wk_seq ?_
        refine wk_region ?_
        refine wm (.int .i64 (at_ : Int)) rfl rfl rfl ?_
        refine wo_val (v := (.pointer (some ⟨b10, 2, none⟩))) (ap_fa rfl rfl) rfl rfl ?_
        refine wo_rk (rs_rec (q := 2) hs12 rfl rfl rfl rfl rfl rfl rfl rfl rfl) rfl ?_
        rintro _ H15 _ ⟨hs15, _⟩
        have hs15 : HS (Base.of H []) F9 H15 [[(b1, .cells [(.int .i64 0), (.int .i64 0)] none false)], lp6_4, [(b10, .cells [(.int .i64 ((Token.mk (firstK (s.drop at_)).1 (Str.mk (firstK (s.drop at_)).2.1) 0).kind)), (.string ⟨⟨(Token.mk (firstK (s.drop at_)).1 (Str.mk (firstK (s.drop at_)).2.1) 0).text.b⟩⟩), (.int .i64 (at_ : Int))] none false)]] R := hs15
        refine wo_nil ?_
        refine wk_skip_seq ?_
        refine wk_seq ?_
        refine wk_region ?_
        refine wm (.slice la6_4 l.length lk6_4) rfl rfl rfl ?_
        refine wo_val (v := (.agg ⟨[(.int .i64 ((Token.mk (firstK (s.drop at_)).1 (Str.mk (firstK (s.drop at_)).2.1) 0).kind)), (.string ⟨⟨(Token.mk (firstK (s.drop at_)).1 (Str.mk (firstK (s.drop at_)).2.1) 0).text.b⟩⟩), (.int .i64 (at_ : Int))]⟩)) (ap_ldN (i := 0) rfl rfl rfl (HS.hc hs15 (i := 2) rfl) rfl rfl rfl) rfl rfl ?_
        refine wo_rs (rs_lit (α := Token) (ps := [(0, (.agg ⟨[(.int .i64 ((Token.mk (firstK (s.drop at_)).1 (Str.mk (firstK (s.drop at_)).2.1) 0).kind)), (.string ⟨⟨(Token.mk (firstK (s.drop at_)).1 (Str.mk (firstK (s.drop at_)).2.1) 0).text.b⟩⟩), (.int .i64 (at_ : Int))]⟩))]) (cells := [(.int .i64 ((Token.mk (firstK (s.drop at_)).1 (Str.mk (firstK (s.drop at_)).2.1) 0).kind)), (.string ⟨⟨(Token.mk (firstK (s.drop at_)).1 (Str.mk (firstK (s.drop at_)).2.1) 0).text.b⟩⟩), (.int .i64 (at_ : Int))]) ([(⟨(Token.mk (firstK (s.drop at_)).1 (Str.mk (firstK (s.drop at_)).2.1) 0).kind, ⟨(Token.mk (firstK (s.drop at_)).1 (Str.mk (firstK (s.drop at_)).2.1) 0).text.b⟩, (at_ : Int)⟩ : Token)] : List Token) hs15 rfl rfl rfl (by kernel_rfl) ⟨[(.int .i64 ((Token.mk (firstK (s.drop at_)).1 (Str.mk (firstK (s.drop at_)).2.1) 0).kind)), (.string ⟨⟨(Token.mk (firstK (s.drop at_)).1 (Str.mk (firstK (s.drop at_)).2.1) 0).text.b⟩⟩), (.int .i64 (at_ : Int))], [], rfl, ⟨rfl, by first | omega | (dsimp only; omega) | (rw [List.length_drop]; omega), by first | omega | (dsimp only; omega) | (rw [List.length_drop]; omega)⟩, rfl⟩ rfl) rfl rfl ?_
        rintro _ H17 p16 ⟨a16, k16, rfl, ho16, hs17, _⟩
        have hs17 : HS (Base.of H []) F9 H17 [[(b1, .cells [(.int .i64 0), (.int .i64 0)] none false)], lp6_4, [(b10, .cells [(.int .i64 ((Token.mk (firstK (s.drop at_)).1 (Str.mk (firstK (s.drop at_)).2.1) 0).kind)), (.string ⟨⟨(Token.mk (firstK (s.drop at_)).1 (Str.mk (firstK (s.drop at_)).2.1) 0).text.b⟩⟩), (.int .i64 (at_ : Int))] none false)], p16] R := hs17
        refine wo_rs (rs_app (α := Token) (q := 1) lh6_4 hs17 rfl rfl rfl (OS.sv ho16 hs17 (i := 3) rfl) rfl rfl rfl rfl rfl rfl rfl (by simp only [List.length_append, List.length_cons, List.length_nil]; omega)) rfl rfl ?_
        rintro _ H19 p18 ⟨a18, k18, rfl, ho18, hs19, _⟩
        have hs19 : HS (Base.of H []) F9 H19 [[(b1, .cells [(.int .i64 0), (.int .i64 0)] none false)], p18, [(b10, .cells [(.int .i64 ((Token.mk (firstK (s.drop at_)).1 (Str.mk (firstK (s.drop at_)).2.1) 0).kind)), (.string ⟨⟨(Token.mk (firstK (s.drop at_)).1 (Str.mk (firstK (s.drop at_)).2.1) 0).text.b⟩⟩), (.int .i64 (at_ : Int))] none false)], p16] R := hs19
        refine wa (.slice a18 (l ++ ([(⟨(Token.mk (firstK (s.drop at_)).1 (Str.mk (firstK (s.drop at_)).2.1) 0).kind, ⟨(Token.mk (firstK (s.drop at_)).1 (Str.mk (firstK (s.drop at_)).2.1) 0).text.b⟩, (at_ : Int)⟩ : Token)] : List Token)).length k18) rfl rfl rfl ?_
        refine wo_nil ?_
        refine wk_skip_seq ?_
        refine wk_region ?_
        refine wm (.int .i64 (at_ : Int)) rfl rfl rfl ?_
        refine wo_val (v := (.pointer (some ⟨b10, 1, none⟩))) (ap_fa rfl rfl) rfl rfl ?_
        refine wo_val (v := (.string ⟨⟨(Token.mk (firstK (s.drop at_)).1 (Str.mk (firstK (s.drop at_)).2.1) 0).text.b⟩⟩)) (ap_ld1 (i := 1) rfl rfl (HS.hc hs19 (i := 2) rfl) rfl rfl) rfl rfl ?_
        refine wo_val (v := (.int .i64 (((Token.mk (firstK (s.drop at_)).1 (Str.mk (firstK (s.drop at_)).2.1) 0).text.b).length : Int))) (ap_lenS rfl rfl) rfl rfl ?_
        refine wo_val (v := (.int .i64 ((at_ : Int) + (((Token.mk (firstK (s.drop at_)).1 (Str.mk (firstK (s.drop at_)).2.1) 0).text.b).length : Int)))) (ap_add rfl rfl (w_i64 (n := (at_ : Int) + (((Token.mk (firstK (s.drop at_)).1 (Str.mk (firstK (s.drop at_)).2.1) 0).text.b).length : Int)) (by first | omega | (dsimp only; omega) | (rw [List.length_drop]; omega)))) rfl rfl ?_
        refine wa (.int .i64 ((at_ : Int) + (((Token.mk (firstK (s.drop at_)).1 (Str.mk (firstK (s.drop at_)).2.1) 0).text.b).length : Int))) rfl rfl rfl ?_
        refine wo_nil ?_
        refine wk_skip_block ?_
        refine wk_skip_seq ?_
        refine wk_region ?_
        refine wm (.int .i64 ((at_ : Int) + (((Token.mk (firstK (s.drop at_)).1 (Str.mk (firstK (s.drop at_)).2.1) 0).text.b).length : Int))) rfl rfl rfl ?_
        refine wm (.string ⟨⟨s⟩⟩) rfl rfl rfl ?_
        refine wm (.int .i64 ((at_ : Int) + (((Token.mk (firstK (s.drop at_)).1 (Str.mk (firstK (s.drop at_)).2.1) 0).text.b).length : Int))) rfl rfl rfl ?_
        refine wo_val (v := (.string ⟨⟨s.drop (at_ + (((Token.mk (firstK (s.drop at_)).1 (Str.mk (firstK (s.drop at_)).2.1) 0).text.b).length))⟩⟩)) (ap_slSd (i := at_ + (((Token.mk (firstK (s.drop at_)).1 (Str.mk (firstK (s.drop at_)).2.1) 0).text.b).length)) rfl rfl (optN (by first | omega | (dsimp only; omega) | (rw [List.length_drop]; omega))) (by first | omega | (dsimp only; omega) | (rw [List.length_drop]; omega))) rfl rfl ?_
        refine wo_call (ap_call rfl rfl rfl) rfl rfl (spaceLen_c ex (s.drop (at_ + (((Token.mk (firstK (s.drop at_)).1 (Str.mk (firstK (s.drop at_)).2.1) 0).text.b).length))) _ (by first | omega | (dsimp only; omega) | (rw [List.length_drop]; omega))) ?_
        rintro _ H19 ⟨r20, rfl, rfl, rfl⟩
        refine wo_val (v := (.int .i64 (((at_ : Int) + (((Token.mk (firstK (s.drop at_)).1 (Str.mk (firstK (s.drop at_)).2.1) 0).text.b).length : Int)) + ((spl false (s.drop (at_ + (((Token.mk (firstK (s.drop at_)).1 (Str.mk (firstK (s.drop at_)).2.1) 0).text.b).length))) : Nat) : Int)))) (ap_add rfl rfl (w_i64 (n := ((at_ : Int) + (((Token.mk (firstK (s.drop at_)).1 (Str.mk (firstK (s.drop at_)).2.1) 0).text.b).length : Int)) + ((spl false (s.drop (at_ + (((Token.mk (firstK (s.drop at_)).1 (Str.mk (firstK (s.drop at_)).2.1) 0).text.b).length))) : Nat) : Int)) (by first | omega | (dsimp only; omega) | (rw [List.length_drop]; omega)))) rfl rfl ?_
        refine wa (.int .i64 (((at_ : Int) + (((Token.mk (firstK (s.drop at_)).1 (Str.mk (firstK (s.drop at_)).2.1) 0).text.b).length : Int)) + ((spl false (s.drop (at_ + (((Token.mk (firstK (s.drop at_)).1 (Str.mk (firstK (s.drop at_)).2.1) 0).text.b).length))) : Nat) : Int))) rfl rfl rfl ?_
        refine wo_nil ?_
        refine wk_skip_seq ?_
        refine ih6 _ _ _ ?_ ⟨(at_ + (((Token.mk (firstK (s.drop at_)).1 (Str.mk (firstK (s.drop at_)).2.1) 0).text.b).length)) + (spl false (s.drop (at_ + (((Token.mk (firstK (s.drop at_)).1 (Str.mk (firstK (s.drop at_)).2.1) 0).text.b).length)))), l ++ ([(⟨(Token.mk (firstK (s.drop at_)).1 (Str.mk (firstK (s.drop at_)).2.1) 0).kind, ⟨(Token.mk (firstK (s.drop at_)).1 (Str.mk (firstK (s.drop at_)).2.1) 0).text.b⟩, (at_ : Int)⟩ : Token)] : List Token), fu - 1, a18, k18, p18, _, (Fz.le_trans hF6 (hF9)), (HS.sub hs19 (List.sublist_append_left _ _)), ho18, (agC rfl (agC rfl (agC rfl (agC rfl agN)))), rfl, (by dsimp only; omega), (by dsimp only; omega), (by exact scan_step (by omega) hf (by omega) h2), (by rw [List.length_append, List.length_singleton]; dsimp only; omega)⟩
        dsimp only; omega
    · have c8 := c8b
      try simp only [BS] at c8
      refine wk_exit_seq ?_
      refine wk_exit_seq ?_
      refine wk_exit_block ?_
      refine wk_skip_seq ?_
      refine wk_seq ?_
      refine wk_region ?_
      refine wm (.slice la6_4 l.length lk6_4) rfl rfl rfl ?_
      refine wo_val (v := (.agg ⟨[(.int .i64 0), (.int .i64 0)]⟩)) (ap_bld rfl rfl (by kernel_rfl)) rfl rfl ?_
      refine wa (.slice la6_4 l.length lk6_4) rfl rfl rfl ?_
      refine wo_rk (rs_rec (q := 0) hs6 rfl rfl rfl rfl rfl rfl rfl rfl rfl) rfl ?_
      rintro _ H21 _ ⟨hs21, _⟩
      have hs21 : HS (Base.of H []) F6 H21 [[(b1, .cells [(.int .i64 0), (.int .i64 0)] none false)], lp6_4] R := hs21
      refine wo_nil ?_
      refine wk_skip_seq ?_
      refine wk_ret ⟨.inr rfl, _, (rT rfl (rC rfl (ldVN rfl rfl (HS.hc hs21 (i := 0) rfl) rfl) rN)), la6_4, lk6_4, l, lp6_4, (⟨0, 0⟩ : ErrT), _, (hF6), (HS.only hs21 (i := 1) rfl), rfl, lh6_4, (by first | omega | (dsimp only; omega) | (rw [List.length_drop]; omega)), (by first | omega | (dsimp only; omega) | (rw [List.length_drop]; omega)), (by rw [scan_end (by omega) h2]), (by rw [scan_end (by omega) h2])⟩

def pickV (n m : Int) : Int := bif decide (Int.tmod n m < 0) then Int.tmod n m + m else Int.tmod n m

theorem pick_c (ex : FuncId) (n : Int) (m : Int) (H : Heap) (hm : 0 < m ∧ m < 9223372036854775808) : C Try.prog 0 (KX ex) 19 [(.int .i64 n), (.int .i64 m)] H fun v H' => ∃ (r : Int), H' = H ∧ v = .int .i64 r ∧ r = pickV n m ∧ (0 ≤ r ∧ r < m) := by
  have h1 : -m < n.tmod m := Int.lt_tmod_of_pos n hm.1
  have h2 : n.tmod m < m := Int.tmod_lt_of_pos n hm.1
  refine c_enter Try.func19 rfl rfl ?_
  refine wk_seq ?_
  refine wk_region ?_
  refine wa (.int .i64 0) rfl rfl rfl ?_
  refine wo_nil ?_
  refine wk_skip_seq ?_
  refine wk_seq ?_
  refine wk_region ?_
  refine wm (.int .i64 n) rfl rfl rfl ?_
  refine wm (.int .i64 m) rfl rfl rfl ?_
  refine wo_val (v := (.int .i64 (Int.tmod n m))) (ap_mod rfl rfl (by omega) rfl) rfl rfl ?_
  refine wa (.int .i64 (Int.tmod n m)) rfl rfl rfl ?_
  refine wo_nil ?_
  refine wk_skip_seq ?_
  refine wk_seq ?_
  refine wk_seq ?_
  refine wk_region ?_
  refine wm (.int .i64 (Int.tmod n m)) rfl rfl rfl ?_
  refine wo_val (v := (.bool (decide (Int.tmod n m < 0)))) (ap_cmp rfl rfl rfl rfl) rfl rfl ?_
  refine wo_nil ?_
  refine wk_skip_seq ?_
  refine wk_cond (v := (decide (Int.tmod n m < 0))) rfl rfl (fun c1b => ?_) (fun c1b => ?_)
  · have c1 := c1b
    try simp only [BS] at c1
    refine wk_region ?_
    refine wm (.int .i64 (Int.tmod n m)) rfl rfl rfl ?_
    refine wm (.int .i64 m) rfl rfl rfl ?_
    refine wo_val (v := (.int .i64 ((Int.tmod n m) + m))) (ap_add rfl rfl (w_i64 (n := (Int.tmod n m) + m) (by omega))) rfl rfl ?_
    refine wa (.int .i64 ((Int.tmod n m) + m)) rfl rfl rfl ?_
    refine wo_nil ?_
    refine wk_skip_seq ?_
    refine wk_seq ?_
    refine wk_region ?_
    refine wm (.int .i64 ((Int.tmod n m) + m)) rfl rfl rfl ?_
    refine wa (.int .i64 ((Int.tmod n m) + m)) rfl rfl rfl ?_
    refine wo_nil ?_
    refine wk_skip_seq ?_
    refine wk_ret ⟨.inr rfl, _, rfl, (Int.tmod n m) + m, rfl, rfl, (by simp only [pickV]; first | rw [c1b]; rfl | simp only [c1b, cond_true, cond_false]), (by omega)⟩
  · have c1 := c1b
    try simp only [BS] at c1
    refine wk_skip_seq ?_
    refine wk_seq ?_
    refine wk_region ?_
    refine wm (.int .i64 (Int.tmod n m)) rfl rfl rfl ?_
    refine wa (.int .i64 (Int.tmod n m)) rfl rfl rfl ?_
    refine wo_nil ?_
    refine wk_skip_seq ?_
    refine wk_ret ⟨.inr rfl, _, rfl, Int.tmod n m, rfl, rfl, (by simp only [pickV]; first | rw [c1b]; rfl | simp only [c1b, cond_true, cond_false]), (by omega)⟩
end Go.Proofs.Ytcakpkdeojhacaa.l1
