/-
  Symbolic runs by computation: a row of operations that leave the heap as it is, with what each asks for (own work).
  No condition beyond those that each statement names.
-/
import Derived.Test.YtcakpkdeojhacaaRxQ
import Derived.Test.YtcakpkdeojhacaaRxE
noncomputable section
namespace Go.R

/-- How an operation is to be read: checked, wrapped, with a result named, with a value given. -/
inductive Hint where
  | p
  | w
  | e (n : Int)
  | o (v : Value)

abbrev Ch := List (Nat × Bool)
def bq : Bool → Bool → Bool
  | true, b => b
  | false, b => !b
theorem bq_eq {a b : Bool} (h : bq a b = true) : a = b := by cases a <;> cases b <;> first | rfl | cases h
def gl : List (Nat × Bool) → Nat → Option Bool
  | [], _ => none
  | (s, g) :: G, t => bif Nat.beq s t then some g else gl G t
def act (G : List (Nat × Bool)) : Ch → Bool
  | [] => true
  | (s, w) :: c => (match gl G s with | some g => bq g w | none => false) && act G c
def memC (s : Nat) (w : Bool) : Ch → Bool
  | [] => false
  | (s', w') :: c => (Nat.beq s' s && bq w' w) || memC s w c
def subC : Ch → Ch → Bool
  | [], _ => true
  | (s, w) :: a, c => memC s w c && subC a c
def lk : List (Nat × Ch × Value) → Nat → Option (Ch × Value)
  | [], _ => none
  | (s, x) :: m, t => bif Nat.beq s t then some x else lk m t
structure SS where
  m : List (Nat × Ch × Value)
  G : List (Nat × Bool)
def SS.rd (S : SS) (f : Fn) : Operand → Value
  | .tmp t => match lk S.m t with
    | some x => x.2
    | none => f t
  | .const v => v
  | .global g => .pointer (some ⟨g, 0, none⟩)
  | .func i => .func (.func i) #[] #[]
def SS.can (S : SS) (c : Ch) : Operand → Bool
  | .tmp t => match lk S.m t with
    | some x => subC x.1 c
    | none => true
  | _ => true
def impl (G : List (Nat × Bool)) : Ch → Prop → Prop
  | [], p => p
  | (s, w) :: c, p => match gl G s with
    | some g => g = w → impl G c p
    | none => True
def addG (G : List (Nat × Bool)) (s : Nat) (g : Bool) : List (Nat × Bool) := match gl G s with
  | some _ => G
  | none => (s, g) :: G
def holds : Option Prop → Prop
  | none => True
  | some p => p
def andO (q : Option Prop) (p : Prop) : Prop := match q with
  | none => p
  | some q => q ∧ p

/-! Integers. -/
def rng (k : IntKind) (n : Int) : Prop := match k with
  | .i64 => -9223372036854775808 ≤ n ∧ n < 9223372036854775808
  | .u64 => 0 ≤ n ∧ n < 18446744073709551616
  | .u8 => 0 ≤ n ∧ n < 256
  | k => k.wrap n = n
theorem rng_wrap {k : IntKind} {n : Int} (h : rng k n) : k.wrap n = n := by
  cases k with
  | i64 => exact w_i64 h
  | u64 => exact w_u64 h
  | u8 => exact w_u8 h
  | _ => exact h
def kq : IntKind → IntKind → Bool
  | .i64, .i64 => true
  | .u64, .u64 => true
  | .u8, .u8 => true
  | .i32, .i32 => true
  | .u32, .u32 => true
  | _, _ => false
theorem kq_eq {k k' : IntKind} (h : kq k k' = true) : k' = k := by cases k <;> cases k' <;> first | rfl | cases h
abbrev VP := Option (Value × Option Prop)
def ari (h : Hint) (k : IntKind) (n : Int) : VP := match h with
  | .w => some (.int k (k.wrap n), none)
  | .e m => some (.int k m, some (n = m ∧ rng k m))
  | _ => some (.int k n, some (rng k n))
def bi (h : Hint) (k : IntKind) (n : Int) : VP := match h with
  | .e m => some (.int k m, some (n = m))
  | _ => some (.int k n, none)
def withP (p : Prop) : VP → VP
  | some (v, none) => some (v, some p)
  | some (v, some q) => some (v, some (p ∧ q))
  | none => none
def pint (h : Hint) (op : BinOp) (k : IntKind) (x y : Int) : VP := match op with
  | .add => ari h k (x + y)
  | .sub => ari h k (x - y)
  | .mul => ari h k (x * y)
  | .quo => withP (y ≠ 0) (ari h k (x.tdiv y))
  | .rem => withP (y ≠ 0) (bi h k (x.tmod y))
  | .and => bi h k (bitsOf .and k x y)
  | .or => bi h k (bitsOf .or k x y)
  | .xor => bi h k (bitsOf .xor k x y)
  | .andNot => bi h k (bitsOf .andNot k x y)
  | .eql => some (.bool (x == y), none)
  | .neq => some (.bool (x != y), none)
  | .lss => some (.bool (decide (x < y)), none)
  | .leq => some (.bool (decide (x ≤ y)), none)
  | .gtr => some (.bool (decide (y < x)), none)
  | .geq => some (.bool (decide (y ≤ x)), none)
  | _ => none
/-- What an operator on two aggregates comes to, whoever asks. -/
def AGB (P : Program) (op : BinOp) (t : TypeId) (a b v : Value) : Prop := ∀ (ρ : Operand → Value) (x y : Operand) (yt : TypeId) (d : Option Tmp) (ty : TypeId) (pos : String) (af : Array Edge) (gd : Option (Nat × Bool)) (H : Heap), ρ x = a → ρ y = b → AP P ρ ⟨d, .binOp op t x y yt, ty, pos, af, gd⟩ H (.val v, H)
def isBT (P : Program) (t : TypeId) : Bool := match P.underlying t with
  | some .bool => !P.eqGuardType P.depth t
  | _ => false
def pbin (P : Program) (h : Hint) (op : BinOp) (t : TypeId) (a b : Value) : VP := match a, b with
  | .int k x, .int k' y => match op with
    | .shl => withP (0 ≤ y) (bi h k (k.wrap (x * 2 ^ (Nat.min y.toNat k.bits))))
    | .shr => withP (0 ≤ y) (bi h k (x.fdiv (2 ^ (Nat.min y.toNat k.bits))))
    | op => bif kq k k' then pint h op k x y else none
  | .string x, .string y => match op with
    | .eql => some (.bool (x.data.toList == y.data.toList), none)
    | .neq => some (.bool (x.data.toList != y.data.toList), none)
    | .lss => some (.bool (Op.bytesLess x.data.toList y.data.toList), none)
    | .leq => some (.bool (Op.bytesLess x.data.toList y.data.toList || x.data.toList == y.data.toList), none)
    | .add => some (.string ⟨⟨x.data.toList ++ y.data.toList⟩⟩, some (x.data.toList.length + y.data.toList.length ≤ 1099511627776))
    | _ => none
  | .bool x, .bool y => bif isBT P t then match op with
    | .eql => some (.bool (x == y), none)
    | .neq => some (.bool (x != y), none)
    | _ => none else none
  | .agg x, .agg y => match h with
    | .o v => some (v, some (AGB P op t (.agg x) (.agg y) v))
    | _ => none
  | .pointer a, .pointer b => match nilEq P t (.pointer a) (.pointer b), op with
    | some r, .eql => some (.bool r, none)
    | some r, .neq => some (.bool (!r), none)
    | _, _ => none
  | .slice a n k, .slice b n' k' => match nilEq P t (.slice a n k) (.slice b n' k'), op with
    | some r, .eql => some (.bool r, none)
    | some r, .neq => some (.bool (!r), none)
    | _, _ => none
  | _, _ => none
def pun (h : Hint) (op : UnOp) (v : Value) : VP := match op, v with
  | .not, .bool b => some (.bool (!b), none)
  | .neg, .int k n => ari h k (0 - n)
  | .xor, .int k n => bi h k (bits .xor k (if k.signed then -1 else k.max) n)
  | _, _ => none
def pconv (P : Program) (H : Heap) (h : Hint) (s t : TypeId) (v : Value) : VP := match v with
  | .int _ n => match P.underlying s, P.underlying t with
    | some _, some (.int k') => ari h k' n
    | _, _ => none
  | .slice a n k => match h with
    | .o v => some (v, some (convBytes P s t a n H = some v))
    | _ => none
  | _ => none
def ppick (g : Bool) (a b : Value) : Option Value := match a, b with
  | .bool x, .bool y => some (.bool (bif g then x else y))
  | .int k x, .int k' y => bif kq k k' then some (.int k (bif g then x else y)) else none
  | .string x, .string y => some (.string ⟨⟨bif g then x.data.toList else y.data.toList⟩⟩)
  | _, _ => none
/-- A value lies where a pointer shows. -/
def LDv (P : Program) (H : Heap) (t : TypeId) (a w : Value) : Prop := opLoad P t a H = some (.val w, H)
/-- A slice that may be indexed there. -/
def IX (v : Value) (j : Int) : Prop := ∃ b o n k, v = .slice (some ⟨b, o, none⟩) n k ∧ 0 ≤ j ∧ j < n ∧ n ≤ k
def pidx (P : Program) (t : TypeId) (a i : Value) : VP := match a, i with
  | .string s, .int _ j => match P.underlying t with
    | some .string => some (.int .u8 ((s.data.toList.getD j.toNat 0).toNat : Int), some (0 ≤ j ∧ j < s.data.toList.length))
    | _ => none
  | .agg x, w => match pureRun P (Instr.index t (.agg x) w) with
    | some r => some (r, none)
    | none => none
  | _, _ => none
def pidxA (P : Program) (t : TypeId) (a i : Value) : VP := match a, i with
  | .slice x n k, .int _ j => match P.underlying t with
    | some (.slice e) => match szOf P e with
      | some z => some (.pointer (some ⟨sB (.slice x n k), sO (.slice x n k) + j.toNat * z, none⟩), some (IX (.slice x n k) j))
      | none => none
    | _ => none
  | .pointer (some ⟨b, o, none⟩), .int _ j => match P.underlying t with
    | some (.array n e) => match szOf P e with
      | some z => some (.pointer (some ⟨b, o + j.toNat * z, none⟩), some (0 ≤ j ∧ j < n))
      | none => none
    | _ => none
  | _, _ => none
def pslice (P : Program) (H : Heap) (h : Hint) (t : TypeId) (x : Value) (lo hi : Option Value) : VP := match x with
  | .string s => match P.underlying t with
    | some .string => match lo, hi with
      | none, none => some (.string s, none)
      | some (.int _ i), none => some (.string ⟨⟨s.data.toList.drop i.toNat⟩⟩, some (0 ≤ i ∧ i ≤ s.data.toList.length))
      | none, some (.int _ j) => some (.string ⟨⟨s.data.toList.take j.toNat⟩⟩, some (0 ≤ j ∧ j ≤ s.data.toList.length))
      | some (.int _ i), some (.int _ j) => some (.string ⟨⟨(s.data.toList.drop i.toNat).take (j.toNat - i.toNat)⟩⟩, some (0 ≤ i ∧ i ≤ j ∧ j ≤ s.data.toList.length))
      | _, _ => none
    | _ => none
  | x => match h with
    | .o v => some (v, some (aSlice P t x lo hi none H = some v))
    | _ => none
def plen (P : Program) (t : TypeId) (x : Value) : VP := match x with
  | .string s => match P.underlying t with
    | some .string => some (.int .i64 (s.data.toList.length : Int), none)
    | _ => none
  | .slice _ n _ => match P.underlying t with
    | some (.slice _) => some (.int .i64 (n : Int), none)
    | _ => none
  | _ => none
def pmm (w : Bool) (a b : Value) : VP := match a, b with
  | .int k x, .int _ y => some (.int k (bif w then (if y < x then y else x) else (if y > x then y else x)), none)
  | _, _ => none
def pcall (P : Program) (G0 : Nat) (K : Known) (H : Heap) (h : Hint) (ρ : Operand → Value) (c : Call) : VP := match c.callee with
  | .builtin .len => match c.argTypes.toList, c.args.toList with
    | [t], [x] => plen P t (ρ x)
    | _, _ => none
  | .builtin .min => match c.args.toList with
    | [x, y] => pmm true (ρ x) (ρ y)
    | _ => none
  | .builtin .max => match c.args.toList with
    | [x, y] => pmm false (ρ x) (ρ y)
    | _ => none
  | .value f => match aCallee P (ρ f) (mapL ρ c.args.toList), h with
    | some (.enter g args), .o v => some (v, some (C P G0 K g args H fun v' H' => v' = v ∧ H' = H))
    | _, _ => none
  | _ => none
def optV {α : Type} (r : Option α) : Option (α × Option Prop) := match r with
  | some v => some (v, none)
  | none => none
def pop (P : Program) (G0 : Nat) (K : Known) (H : Heap) (h : Hint) (ρ : Operand → Value) (op : Op) : VP := match op with
  | .move x => some (ρ x, none)
  | .assign x => some (ρ x, none)
  | .binOp op t x y _ => pbin P h op t (ρ x) (ρ y)
  | .unOp op _ x => pun h op (ρ x)
  | .convert s t x => pconv P H h s t (ρ x)
  | .load t a => match h with
    | .o v => some (v, some (LDv P H t (ρ a) v))
    | _ => none
  | .index t x i => pidx P t (ρ x) (ρ i)
  | .indexAddr t x i => pidxA P t (ρ x) (ρ i)
  | .field t x f => optV (aFieldV P t (ρ x) f)
  | .fieldAddr s x f => optV (aField P s (ρ x) f)
  | .extract x i => optV (aExtract (ρ x) i)
  | .build t parts => match zeroOf P t with
    | some _ => optV (pureRun P (Instr.build t (parts.map fun p => (p.1, ρ p.2))))
    | none => none
  | .slice t x lo hi none => pslice P H h t (ρ x) (lo.map ρ) (hi.map ρ)
  | .call c => pcall P G0 K H h ρ c
  | .nilCheck x => match ρ x with
    | .pointer (some a) => some (.pointer (some a), none)
    | .func (.func f) a c => some (.func (.func f) a c, none)
    | _ => none
  | .makeFunc fn first cap => some (.func fn (first.map ρ) (cap.map ρ), none)
  | _ => none
def chainOf (ops : Array Oper) (f : Fn) (S : SS) : Option (Nat × Bool) → Option (Ch × List (Nat × Bool))
  | none => some ([], S.G)
  | some (j, w) => match (ops[j]?).bind (·.dst) with
    | some d => match lk S.m d with
      | some (c, .bool g) => some ((d, w) :: c, addG S.G d g)
      | some _ => none
      | none => match f d with
        | .bool g => some ([(d, w)], addG S.G d g)
        | _ => none
    | none => none
def putS (q : Option Prop) (c : Ch) (G : List (Nat × Bool)) (m : List (Nat × Ch × Value)) (d : Nat) (v : Value) : Option (SS × Option Prop) :=
  match gl G d with
  | some _ => none
  | none => some (⟨(d, c, v) :: m, G⟩, match q with
    | none => none
    | some p => some (impl G c p))
def stepS (P : Program) (G0 : Nat) (K : Known) (H : Heap) (sz : Nat) (ops : Array Oper) (f : Fn) (S : SS) (h : Hint) (o : Oper) : Option (SS × Option Prop) :=
  match o.dst with
  | none => none
  | some d =>
    bif Nat.ble (d + 1) sz && o.op.operands.toList.all (opnOK G0) then
      match chainOf ops f S o.guard with
      | none => none
      | some (c, G1) =>
        match o.op with
        | .pick (.tmp s) a b =>
          match lk S.m s with
          | some (cc, .bool g) =>
            bif subC cc c && (S.can ((s, true) :: c) a && S.can ((s, false) :: c) b) then
              match ppick g (S.rd f a) (S.rd f b) with
              | some v => putS none c (addG G1 s g) S.m d v
              | none => none
            else none
          | _ => none
        | op =>
          bif op.operands.toList.all (S.can c) then
            match pop P G0 K H h (S.rd f) op with
            | some (v, q) => putS q c G1 S.m d v
            | none => none
          else none
    else none
def hintAt : List (Nat × Hint) → Nat → Hint
  | [], _ => .p
  | (i, h) :: l, j => bif Nat.beq i j then h else hintAt l j
def rgL (P : Program) (G0 : Nat) (K : Known) (H : Heap) (sz : Nat) (ops : Array Oper) (f : Fn) (hs : List (Nat × Hint)) : Nat → List Oper → SS → Option (SS × Prop)
  | _, [], S => some (S, True)
  | i, o :: os, S => match stepS P G0 K H sz ops f S (hintAt hs i) o with
    | none => none
    | some (S1, q) => match rgL P G0 K H sz ops f hs (i + 1) os S1 with
      | none => none
      | some (S2, p) => some (S2, andO q p)
def fins (m : List (Nat × Ch × Value)) : List Nat → Option (List (Nat × Value))
  | [] => some []
  | d :: ds => match lk m d, fins m ds with
    | some ([], v), some l => some ((d, v) :: l)
    | _, _ => none
def rgTop (P : Program) (G0 : Nat) (K : Known) (H : Heap) (sz : Nat) (ops : Array Oper) (f : Fn) (i : Nat) (os : List Oper) (hs : List (Nat × Hint)) (lo hi : Nat) (ex : List Nat) (ds : List Nat) : Option (List (Nat × Value) × Prop) :=
  match rgL P G0 K H sz ops f hs i os ⟨[], []⟩ with
  | none => none
  | some (S, p) => bif S.m.all (fun e => inR lo hi ex e.1) then
      match fins S.m ds with
      | some l => some (l, p)
      | none => none
    else none
end Go.R
end
