/-
 Operations on words, as the interpreters use them, each by a symbolic run. No condition but that an argument is a word.
-/
import Derived.Test.YtlabedbmgmfbaaaDoorZIM1
import Derived.Test.YtlabedbmgmfbaaaDoorZIRD
noncomputable section
namespace Go.Proofs.YtlabedbmgmfbaaaDoor.iw
open Go.R
set_option maxRecDepth 10000
set_option linter.unusedVariables false
open m1
abbrev w64 (n : Int) : Int := IntKind.i64.wrap n
def aV (b : Bool) : Int := bif b then 1 else 0
def jG (a b : Int) : Int := bif b == 0 then 0 else bif b == -1 then w64 (0 - a) else w64 (Int.tdiv a b)
def byV (b : Int) : Int := IntKind.u64.wrap (aO .and .i64 b 63)
def shcV (op a b : Int) : Int :=
 bif op == 12 then w64 (a * 2 ^ (Nat.min (byV b).toNat 64))
 else bif op == 13 then w64 (Int.fdiv (IntKind.u64.wrap a) (2 ^ (Nat.min (byV b).toNat 64)))
 else bif op == 14 then Int.fdiv a (2 ^ (Nat.min (byV b).toNat 64))
 else bif op == 15 then aV (a == b)
 else bif op == 16 then aV (a != b)
 else bif op == 17 then aV (decide (a < b))
 else bif op == 18 then aV (decide (a ≤ b))
 else bif op == 19 then aV (decide (IntKind.u64.wrap a < IntKind.u64.wrap b))
 else 0
def binV (op a b : Int) : Int :=
 bif op == 4 then w64 (a + b)
 else bif op == 5 then w64 (a - b)
 else bif op == 6 then w64 (a * b)
 else bif op == 7 then jG a b
 else bif op == 8 then (bif b == 0 then 0 else w64 (a - w64 (jG a b * b)))
 else bif op == 9 then aO .and .i64 a b
 else bif op == 10 then aO .or .i64 a b
 else bif op == 11 then aO .xor .i64 a b
 else shcV op a b
def unV (op a : Int) : Int := bif op == 20 then w64 (0 - a) else bif op == 21 then bits .xor .i64 (-1) a else 0
theorem ie (b : Int) : 0 ≤ byV b := by
 have h : IntKind.u64.wrap (aO .and .i64 b 63) = (aO .and .i64 b 63) % (2 ^ 64 : Int) := rfl
 unfold byV
 rw [h]; exact Int.emod_nonneg _ (by decide)
theorem truth_c (ex : FuncId) (b : Bool) (H : Heap) : C Tryd.prog 1 (KT 60 ex 37 tabC) 103 [(.bool b)] H fun v H' => ∃ (r : Int), H' = H ∧ v = .int .i64 r ∧ r = aV b := by
 refine aJ Tryd.func103 rfl rfl ?_
 refine ao 1 rfl ?_
 refine wR 3 [] 2 2 [] [(2, (iI 0))] trivial rfl fun _ => ?_
 refine wR 1 [] 3 3 [] [(3, (.bool b))] trivial rfl fun _ => ?_
 refine aj 1 2 (v := b) rfl rfl rfl rfl (fun z => ?_) (fun z => ?_)
 ·
  have A := z
  try simp only [BS] at A
  refine wR 1 [] 2 2 [] [(2, (iI 1))] trivial rfl fun _ => ?_
  refine ah ⟨.inr rfl, _, rfl, 1, rfl, rfl, (by simp only [aV, z]; rfl)⟩
 ·
  have A := z
  try simp only [BS] at A
  refine wR 1 [] 2 2 [] [(2, (iI 0))] trivial rfl fun _ => ?_
  refine ah ⟨.inr rfl, _, rfl, 0, rfl, rfl, (by simp only [aV, z]; rfl)⟩
theorem eT (ex : FuncId) (b : Bool) (H : Heap) : C Tryd.prog 1 (KT 60 ex 37 tabC) 103 [(.bool b)] H fun v H' => v = (iI (aV b)) ∧ H' = H :=
 cq (truth_c ex b H) (by rintro _ _ ⟨_, rfl, rfl, rfl⟩; exact ⟨rfl, rfl⟩)
theorem quo_c (ex : FuncId) (a : Int) (b : Int) (H : Heap) : C Tryd.prog 1 (KT 60 ex 37 tabC) 101 [(iI a), (iI b)] H fun v H' => ∃ (r : Int), H' = H ∧ v = .int .i64 r ∧ r = jG a b := by
 refine aJ Tryd.func101 rfl rfl ?_
 refine ao 1 rfl ?_
 refine wR 3 [] 4 4 [] [(4, (iI 0))] trivial rfl fun _ => ?_
 refine wR 3 [] 5 5 [] [(5, (iI b))] trivial rfl fun _ => ?_
 refine wR 1 [] 6 7 [] [(6, (.bool (b == 0)))] trivial rfl fun _ => ?_
 refine aj 1 1 (v := (b == 0)) rfl rfl rfl rfl (fun z => ?_) (fun z => ?_)
 ·
  have E := z
  try simp only [BS] at E
  refine wR 1 [] 4 4 [] [(4, (iI 0))] trivial rfl fun _ => ?_
  refine ah ⟨.inr rfl, _, rfl, 0, rfl, rfl, (by simp only [jG, z, cond_true])⟩
 ·
  have E := z
  try simp only [BS] at E
  refine wR 1 [] 8 9 [] [(8, (.bool (b == (-1))))] trivial rfl fun _ => ?_
  refine aj 1 3 (v := (b == (-1))) rfl rfl rfl rfl (fun A => ?_) (fun A => ?_)
  ·
   have I := A
   try simp only [BS] at I
   refine wR 1 [(1, .w)] 10 11 [4] [(4, (iI (IntKind.i64.wrap (0 - a))))] trivial rfl fun _ => ?_
   refine ah ⟨.inr rfl, _, rfl, IntKind.i64.wrap (0 - a), rfl, rfl, (by simp only [jG, z, A, cond_true, cond_false])⟩
  ·
   have I := A
   try simp only [BS] at I
   refine wR 1 [(2, .w)] 12 14 [4] [(4, (iI (IntKind.i64.wrap (Int.tdiv a b))))] (vA (show b ≠ 0 from by first | assumption | omega) trivial) rfl fun _ => ?_
   refine ah ⟨.inr rfl, _, rfl, IntKind.i64.wrap (Int.tdiv a b), rfl, rfl, (by simp only [jG, z, A, cond_false])⟩
theorem quo_c_q (ex : FuncId) (a : Int) (b : Int) (H : Heap) : C Tryd.prog 1 (KT 60 ex 37 tabC) 101 [(iI a), (iI b)] H fun v H' => v = (iI (jG a b)) ∧ H' = H :=
 cq (quo_c ex a b H) (by rintro _ _ ⟨_, rfl, rfl, rfl⟩; exact ⟨rfl, rfl⟩)
theorem sho_c (ex : FuncId) (op : Int) (a : Int) (b : Int) (H : Heap) : C Tryd.prog 1 (KT 60 ex 37 tabC) 102 [(iI op), (iI a), (iI b)] H fun v H' => ∃ (r : Int), H' = H ∧ v = .int .i64 r ∧ r = shcV op a b := by
 refine aJ Tryd.func102 rfl rfl ?_
 refine ao 1 rfl ?_
 refine wR 2 [] 6 6 [] [(6, (iI 0))] trivial rfl fun _ => ?_
 refine wR 3 [(2, .w)] 8 10 [7] [(7, (.int .u64 (IntKind.u64.wrap (aO .and .i64 b 63))))] trivial rfl fun _ => ?_
 refine wR 3 [] 11 11 [] [(11, (iI op))] trivial rfl fun _ => ?_
 refine wR 1 [] 12 13 [] [(12, (.bool (op == 12)))] trivial rfl fun _ => ?_
 refine aj 1 1 (v := (op == 12)) rfl rfl rfl rfl (fun E => ?_) (fun E => ?_)
 ·
  have c5 := E
  try simp only [BS] at c5
  refine wR 1 [] 14 16 [6] [(6, (iI (IntKind.i64.wrap (a * 2 ^ (Nat.min (IntKind.u64.wrap (aO .and .i64 b 63)).toNat 64)))))] (vA (show (0 : Int) ≤ IntKind.u64.wrap (aO .and .i64 b 63) from by exact ie b) trivial) rfl fun _ => ?_
  refine ah ⟨.inr rfl, _, rfl, IntKind.i64.wrap (a * 2 ^ (Nat.min (IntKind.u64.wrap (aO .and .i64 b 63)).toNat 64)), rfl, rfl, (by simp only [shcV, byV, E, cond_true])⟩
 ·
  have c5 := E
  try simp only [BS] at c5
  refine wR 1 [] 17 18 [] [(17, (.bool (op == 13)))] trivial rfl fun _ => ?_
  refine aj 1 1 (v := (op == 13)) rfl rfl rfl rfl (fun J => ?_) (fun J => ?_)
  ·
   have c8 := J
   try simp only [BS] at c8
   refine wR 1 [(1, .w), (4, .w)] 19 23 [6] [(6, (iI (IntKind.i64.wrap (Int.fdiv (IntKind.u64.wrap a) (2 ^ (Nat.min (IntKind.u64.wrap (aO .and .i64 b 63)).toNat 64))))))] (vA (show (0 : Int) ≤ IntKind.u64.wrap (aO .and .i64 b 63) from by exact ie b) trivial) rfl fun _ => ?_
   refine ah ⟨.inr rfl, _, rfl, IntKind.i64.wrap (Int.fdiv (IntKind.u64.wrap a) (2 ^ (Nat.min (IntKind.u64.wrap (aO .and .i64 b 63)).toNat 64))), rfl, rfl, (by simp only [shcV, byV, E, J, cond_true, cond_false])⟩
  ·
   have c8 := J
   try simp only [BS] at c8
   refine wR 1 [] 24 25 [] [(24, (.bool (op == 14)))] trivial rfl fun _ => ?_
   refine aj 1 1 (v := (op == 14)) rfl rfl rfl rfl (fun z => ?_) (fun z => ?_)
   ·
    have V := z
    try simp only [BS] at V
    refine wR 1 [] 26 28 [6] [(6, (iI (Int.fdiv a (2 ^ (Nat.min (IntKind.u64.wrap (aO .and .i64 b 63)).toNat 64)))))] (vA (show (0 : Int) ≤ IntKind.u64.wrap (aO .and .i64 b 63) from by exact ie b) trivial) rfl fun _ => ?_
    refine ah ⟨.inr rfl, _, rfl, Int.fdiv a (2 ^ (Nat.min (IntKind.u64.wrap (aO .and .i64 b 63)).toNat 64)), rfl, rfl, (by simp only [shcV, byV, E, J, z, cond_true, cond_false])⟩
   ·
    have V := z
    try simp only [BS] at V
    refine wR 1 [] 29 30 [] [(29, (.bool (op == 15)))] trivial rfl fun _ => ?_
    refine aj 1 1 (v := (op == 15)) rfl rfl rfl rfl (fun A => ?_) (fun A => ?_)
    ·
     have Z := A
     try simp only [BS] at Z
     refine wR 1 [(3, .o (iI (aV (a == b))))] 31 34 [6] [(6, (iI (aV (a == b))))] (vA (eT ex (a == b) H) trivial) rfl fun _ => ?_
     refine ah ⟨.inr rfl, _, rfl, aV (a == b), rfl, rfl, (by simp only [shcV, byV, E, J, z, A, cond_true, cond_false])⟩
    ·
     have Z := A
     try simp only [BS] at Z
     refine wR 1 [] 35 36 [] [(35, (.bool (op == 16)))] trivial rfl fun _ => ?_
     refine aj 1 1 (v := (op == 16)) rfl rfl rfl rfl (fun I => ?_) (fun I => ?_)
     ·
      have ad := I
      try simp only [BS] at ad
      refine wR 1 [(3, .o (iI (aV (a != b))))] 37 40 [6] [(6, (iI (aV (a != b))))] (vA (eT ex (a != b) H) trivial) rfl fun _ => ?_
      refine ah ⟨.inr rfl, _, rfl, aV (a != b), rfl, rfl, (by simp only [shcV, byV, E, J, z, A, I, cond_true, cond_false])⟩
     ·
      have ad := I
      try simp only [BS] at ad
      refine wR 1 [] 41 42 [] [(41, (.bool (op == 17)))] trivial rfl fun _ => ?_
      refine aj 1 1 (v := (op == 17)) rfl rfl rfl rfl (fun O => ?_) (fun O => ?_)
      ·
       have ag := O
       try simp only [BS] at ag
       refine wR 1 [(3, .o (iI (aV (decide (a < b)))))] 43 46 [6] [(6, (iI (aV (decide (a < b)))))] (vA (eT ex (decide (a < b)) H) trivial) rfl fun _ => ?_
       refine ah ⟨.inr rfl, _, rfl, aV (decide (a < b)), rfl, rfl, (by simp only [shcV, byV, E, J, z, A, I, O, cond_true, cond_false])⟩
      ·
       have ag := O
       try simp only [BS] at ag
       refine wR 1 [] 47 48 [] [(47, (.bool (op == 18)))] trivial rfl fun _ => ?_
       refine aj 1 1 (v := (op == 18)) rfl rfl rfl rfl (fun T => ?_) (fun T => ?_)
       ·
        have ap := T
        try simp only [BS] at ap
        refine wR 1 [(3, .o (iI (aV (decide (a ≤ b)))))] 49 52 [6] [(6, (iI (aV (decide (a ≤ b)))))] (vA (eT ex (decide (a ≤ b)) H) trivial) rfl fun _ => ?_
        refine ah ⟨.inr rfl, _, rfl, aV (decide (a ≤ b)), rfl, rfl, (by simp only [shcV, byV, E, J, z, A, I, O, T, cond_true, cond_false])⟩
       ·
        have ap := T
        try simp only [BS] at ap
        refine wR 1 [] 53 54 [] [(53, (.bool (op == 19)))] trivial rfl fun _ => ?_
        refine aj 1 3 (v := (op == 19)) rfl rfl rfl rfl (fun U => ?_) (fun U => ?_)
        ·
         have aq := U
         try simp only [BS] at aq
         refine wR 1 [(1, .w), (3, .w), (5, .o (iI (aV (decide (IntKind.u64.wrap a < IntKind.u64.wrap b)))))] 55 60 [6] [(6, (iI (aV (decide (IntKind.u64.wrap a < IntKind.u64.wrap b)))))] (vA (eT ex (decide (IntKind.u64.wrap a < IntKind.u64.wrap b)) H) trivial) rfl fun _ => ?_
         refine ah ⟨.inr rfl, _, rfl, aV (decide (IntKind.u64.wrap a < IntKind.u64.wrap b)), rfl, rfl, (by simp only [shcV, byV, E, J, z, A, I, O, T, U, cond_true, cond_false])⟩
        ·
         have aq := U
         try simp only [BS] at aq
         refine wR 1 [] 6 6 [] [(6, (iI 0))] trivial rfl fun _ => ?_
         refine ah ⟨.inr rfl, _, rfl, 0, rfl, rfl, (by simp only [shcV, byV, E, J, z, A, I, O, T, U, cond_false])⟩
theorem sho_c_q (ex : FuncId) (op : Int) (a : Int) (b : Int) (H : Heap) : C Tryd.prog 1 (KT 60 ex 37 tabC) 102 [(iI op), (iI a), (iI b)] H fun v H' => v = (iI (shcV op a b)) ∧ H' = H :=
 cq (sho_c ex op a b H) (by rintro _ _ ⟨_, rfl, rfl, rfl⟩; exact ⟨rfl, rfl⟩)
theorem bin_c (ex : FuncId) (op : Int) (a : Int) (b : Int) (H : Heap) : C Tryd.prog 1 (KT 60 ex 37 tabC) 99 [(iI op), (iI a), (iI b)] H fun v H' => ∃ (r : Int), H' = H ∧ v = .int .i64 r ∧ r = binV op a b := by
 refine aJ Tryd.func99 rfl rfl ?_
 refine ao 1 rfl ?_
 refine wR 3 [] 6 6 [] [(6, (iI 0))] trivial rfl fun _ => ?_
 refine wR 3 [] 7 7 [] [(7, (iI op))] trivial rfl fun _ => ?_
 refine wR 1 [] 8 9 [] [(8, (.bool (op == 4)))] trivial rfl fun _ => ?_
 refine aj 1 1 (v := (op == 4)) rfl rfl rfl rfl (fun E => ?_) (fun E => ?_)
 ·
  have c4 := E
  try simp only [BS] at c4
  refine wR 1 [(2, .w)] 10 12 [6] [(6, (iI (IntKind.i64.wrap (a + b))))] trivial rfl fun _ => ?_
  refine ah ⟨.inr rfl, _, rfl, IntKind.i64.wrap (a + b), rfl, rfl, (by simp only [binV, E, cond_true])⟩
 ·
  have c4 := E
  try simp only [BS] at c4
  refine wR 1 [] 13 14 [] [(13, (.bool (op == 5)))] trivial rfl fun _ => ?_
  refine aj 1 1 (v := (op == 5)) rfl rfl rfl rfl (fun J => ?_) (fun J => ?_)
  ·
   have c7 := J
   try simp only [BS] at c7
   refine wR 1 [(2, .w)] 15 17 [6] [(6, (iI (IntKind.i64.wrap (a - b))))] trivial rfl fun _ => ?_
   refine ah ⟨.inr rfl, _, rfl, IntKind.i64.wrap (a - b), rfl, rfl, (by simp only [binV, E, J, cond_true, cond_false])⟩
  ·
   have c7 := J
   try simp only [BS] at c7
   refine wR 1 [] 18 19 [] [(18, (.bool (op == 6)))] trivial rfl fun _ => ?_
   refine aj 1 1 (v := (op == 6)) rfl rfl rfl rfl (fun z => ?_) (fun z => ?_)
   ·
    have Z := z
    try simp only [BS] at Z
    refine wR 1 [(2, .w)] 20 22 [6] [(6, (iI (IntKind.i64.wrap (a * b))))] trivial rfl fun _ => ?_
    refine ah ⟨.inr rfl, _, rfl, IntKind.i64.wrap (a * b), rfl, rfl, (by simp only [binV, E, J, z, cond_true, cond_false])⟩
   ·
    have Z := z
    try simp only [BS] at Z
    refine wR 1 [] 23 24 [] [(23, (.bool (op == 7)))] trivial rfl fun _ => ?_
    refine aj 1 1 (v := (op == 7)) rfl rfl rfl rfl (fun A => ?_) (fun A => ?_)
    ·
     have ad := A
     try simp only [BS] at ad
     refine wR 1 [(2, .o (iI (jG a b)))] 25 27 [6] [(6, (iI (jG a b)))] (vA (quo_c_q ex a b H) trivial) rfl fun _ => ?_
     refine ah ⟨.inr rfl, _, rfl, jG a b, rfl, rfl, (by simp only [binV, E, J, z, A, cond_true, cond_false])⟩
    ·
     have ad := A
     try simp only [BS] at ad
     refine wR 1 [] 28 29 [] [(28, (.bool (op == 8)))] trivial rfl fun _ => ?_
     refine aj 2 1 (v := (op == 8)) rfl rfl rfl rfl (fun I => ?_) (fun I => ?_)
     ·
      have ag := I
      try simp only [BS] at ag
      refine wR 1 [] 30 31 [] [(31, (.bool (b == 0)))] trivial rfl fun _ => ?_
      refine aj 1 2 (v := (b == 0)) rfl rfl rfl rfl (fun U => ?_) (fun U => ?_)
      ·
       have ap := U
       try simp only [BS] at ap
       refine wR 1 [] 6 6 [] [(6, (iI 0))] trivial rfl fun _ => ?_
       refine ah ⟨.inr rfl, _, rfl, 0, rfl, rfl, (by simp only [binV, E, J, z, A, I, U, cond_true, cond_false])⟩
      ·
       have ap := U
       try simp only [BS] at ap
       refine wR 1 [(3, .o (iI (jG a b))), (5, .w), (6, .w)] 32 38 [6] [(6, (iI (IntKind.i64.wrap (a - (IntKind.i64.wrap ((jG a b) * b))))))] (vA (quo_c_q ex a b H) trivial) rfl fun _ => ?_
       refine ah ⟨.inr rfl, _, rfl, IntKind.i64.wrap (a - (IntKind.i64.wrap ((jG a b) * b))), rfl, rfl, (by simp only [binV, E, J, z, A, I, U, cond_true, cond_false])⟩
     ·
      have ag := I
      try simp only [BS] at ag
      refine wR 1 [] 39 40 [] [(39, (.bool (op == 9)))] trivial rfl fun _ => ?_
      refine aj 1 1 (v := (op == 9)) rfl rfl rfl rfl (fun O => ?_) (fun O => ?_)
      ·
       have aq := O
       try simp only [BS] at aq
       refine wR 1 [] 41 43 [6] [(6, (iI (aO .and .i64 a b)))] trivial rfl fun _ => ?_
       refine ah ⟨.inr rfl, _, rfl, aO .and .i64 a b, rfl, rfl, (by simp only [binV, E, J, z, A, I, O, cond_true, cond_false])⟩
      ·
       have aq := O
       try simp only [BS] at aq
       refine wR 1 [] 44 45 [] [(44, (.bool (op == 10)))] trivial rfl fun _ => ?_
       refine aj 1 1 (v := (op == 10)) rfl rfl rfl rfl (fun T => ?_) (fun T => ?_)
       ·
        have ar := T
        try simp only [BS] at ar
        refine wR 1 [] 46 48 [6] [(6, (iI (aO .or .i64 a b)))] trivial rfl fun _ => ?_
        refine ah ⟨.inr rfl, _, rfl, aO .or .i64 a b, rfl, rfl, (by simp only [binV, E, J, z, A, I, O, T, cond_true, cond_false])⟩
       ·
        have ar := T
        try simp only [BS] at ar
        refine wR 1 [] 49 50 [] [(49, (.bool (op == 11)))] trivial rfl fun _ => ?_
        refine aj 1 3 (v := (op == 11)) rfl rfl rfl rfl (fun V => ?_) (fun V => ?_)
        ·
         have av := V
         try simp only [BS] at av
         refine wR 1 [] 51 53 [6] [(6, (iI (aO .xor .i64 a b)))] trivial rfl fun _ => ?_
         refine ah ⟨.inr rfl, _, rfl, aO .xor .i64 a b, rfl, rfl, (by simp only [binV, E, J, z, A, I, O, T, V, cond_true, cond_false])⟩
        ·
         have av := V
         try simp only [BS] at av
         refine wR 1 [(3, .o (iI (shcV op a b)))] 54 57 [6] [(6, (iI (shcV op a b)))] (vA (sho_c_q ex op a b H) trivial) rfl fun _ => ?_
         refine ah ⟨.inr rfl, _, rfl, shcV op a b, rfl, rfl, (by simp only [binV, E, J, z, A, I, O, T, V, cond_false])⟩
theorem un_c (ex : FuncId) (op : Int) (a : Int) (H : Heap) : C Tryd.prog 1 (KT 60 ex 37 tabC) 98 [(iI op), (iI a)] H fun v H' => ∃ (r : Int), H' = H ∧ v = .int .i64 r ∧ r = unV op a := by
 refine aJ Tryd.func98 rfl rfl ?_
 refine ao 1 rfl ?_
 refine wR 3 [] 4 4 [] [(4, (iI 0))] trivial rfl fun _ => ?_
 refine wR 3 [] 5 5 [] [(5, (iI op))] trivial rfl fun _ => ?_
 refine wR 1 [] 6 7 [] [(6, (.bool (op == 20)))] trivial rfl fun _ => ?_
 refine aj 1 1 (v := (op == 20)) rfl rfl rfl rfl (fun z => ?_) (fun z => ?_)
 ·
  have E := z
  try simp only [BS] at E
  refine wR 1 [(1, .w)] 8 9 [4] [(4, (iI (IntKind.i64.wrap (0 - a))))] trivial rfl fun _ => ?_
  refine ah ⟨.inr rfl, _, rfl, IntKind.i64.wrap (0 - a), rfl, rfl, (by simp only [unV, z, cond_true])⟩
 ·
  have E := z
  try simp only [BS] at E
  refine wR 1 [] 10 11 [] [(10, (.bool (op == 21)))] trivial rfl fun _ => ?_
  refine aj 1 3 (v := (op == 21)) rfl rfl rfl rfl (fun A => ?_) (fun A => ?_)
  ·
   have I := A
   try simp only [BS] at I
   refine wR 1 [] 12 13 [4] [(4, (iI (bits .xor .i64 (-1) a)))] trivial rfl fun _ => ?_
   refine ah ⟨.inr rfl, _, rfl, bits .xor .i64 (-1) a, rfl, rfl, (by simp only [unV, z, A, cond_true, cond_false])⟩
  ·
   have I := A
   try simp only [BS] at I
   refine wR 1 [] 4 4 [] [(4, (iI 0))] trivial rfl fun _ => ?_
   refine ah ⟨.inr rfl, _, rfl, 0, rfl, rfl, (by simp only [unV, z, A, cond_false])⟩
end Go.Proofs.YtlabedbmgmfbaaaDoor.iw
