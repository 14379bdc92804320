/-
 Operations on words in the reference, each by a symbolic run. No condition but that an argument is a word.
-/
import Derived.Test.YtlabedbmgmfbaaaDoorZDIW
noncomputable section
namespace Go.Proofs.YtlabedbmgmfbaaaDoor.jw
open Go.R
set_option maxRecDepth 10000
set_option linter.unusedVariables false
open m1 iw
theorem w64_u (n : Int) : IntKind.i64.wrap (IntKind.u64.wrap n) = IntKind.i64.wrap n := by
 rw [iy, iy, gz]
 congr 1
 apply BitVec.eq_of_toInt_eq
 show (BitVec.ofInt 64 (n % 18446744073709551616)).toInt = (BitVec.ofInt 64 n).toInt
 rw [BitVec.toInt_ofInt, BitVec.toInt_ofInt]
 show Int.bmod (n % (2 ^ 64 : Nat)) (2 ^ 64) = Int.bmod n (2 ^ 64)
 exact Int.emod_bmod ..
theorem shl_u (a k : Int) : IntKind.i64.wrap (IntKind.u64.wrap (IntKind.u64.wrap a * k)) = IntKind.i64.wrap (a * k) := by
 have e : IntKind.u64.wrap (IntKind.u64.wrap a * k) = IntKind.u64.wrap (a * k) := by rw [gz, gz, gz, Int.mul_emod, Int.emod_emod, ← Int.mul_emod]
 rw [e, w64_u]
theorem rem_eq {a b : Int} (ha : in64 a) (hb : in64 b) (h0 : b ≠ 0) (z : b ≠ -1) : Int.tmod a b = w64 (a - w64 (quoV a b * b)) := by
 have hq : quoV a b = Int.tdiv a b := by
  unfold quoV
  rw [show (b == 0) = false by simpa using h0, show (b == -1) = false by simpa using z]
  exact w_tdiv ha z
 have e := Int.tmod_add_mul_tdiv a b
 have hm : in64 (Int.tdiv a b * b) := by
  have V := Int.tmod_lt_of_pos
  have I : (Int.tmod a b).natAbs ≤ a.natAbs := by rw [Int.natAbs_tmod]; exact Nat.mod_le _ _
  have J : Int.tdiv a b * b = a - Int.tmod a b := by rw [Int.mul_comm]; omega
  have O : 0 ≤ a → 0 ≤ Int.tmod a b := fun h => Int.tmod_nonneg b h
  have T : a ≤ 0 → Int.tmod a b ≤ 0 := fun h => by
   have := Int.tmod_nonneg b (show 0 ≤ -a by omega)
   rw [Int.neg_tmod] at this; omega
  rw [J]
  unfold in64 at *
  omega
 have A : w64 (Int.tdiv a b * b) = Int.tdiv a b * b := kT hm
 rw [hq, A]
 have U : a - Int.tdiv a b * b = Int.tmod a b := by rw [Int.mul_comm]; omega
 rw [U]
 refine (kT ?_).symm
 have I : (Int.tmod a b).natAbs ≤ a.natAbs := by rw [Int.natAbs_tmod]; exact Nat.mod_le _ _
 have O : 0 ≤ a → 0 ≤ Int.tmod a b := fun h => Int.tmod_nonneg b h
 have T : a ≤ 0 → Int.tmod a b ≤ 0 := fun h => by
  have := Int.tmod_nonneg b (show 0 ≤ -a by omega)
  rw [Int.neg_tmod] at this; omega
 unfold in64 at *
 omega
def rbV (op a b : Int) : Int :=
 if op = 17 then w64 (a + b) else if op = 18 then w64 (a - b) else if op = 19 then w64 (a * b)
 else if op = 20 then (if b = 0 then 0 else if b = -1 then w64 (0 - a) else w64 (Int.tdiv a b))
 else if op = 21 then (if b = 0 ∨ b = -1 then 0 else Int.tmod a b)
 else if op = 22 then aK .and .i64 a b else if op = 23 then aK .or .i64 a b else if op = 24 then aK .xor .i64 a b
 else if op = 25 then w64 (IntKind.u64.wrap (IntKind.u64.wrap a * 2 ^ (Nat.min (byV b).toNat 64)))
 else if op = 26 then w64 (Int.fdiv (IntKind.u64.wrap a) (2 ^ (Nat.min (byV b).toNat 64)))
 else if op = 27 then Int.fdiv a (2 ^ (Nat.min (byV b).toNat 64))
 else if op = 28 then bR (a == b) else if op = 29 then bR (a != b) else if op = 30 then bR (decide (a < b)) else if op = 31 then bR (decide (a ≤ b))
 else bR (decide (IntKind.u64.wrap a < IntKind.u64.wrap b))
theorem one_c (ex : FuncId) (b : Bool) (H : Heap) : C Tryd.prog 1 (KT 60 ex 37 tabC) 100 [(.bool b)] H fun v H' => ∃ (r : Int), H' = H ∧ v = .int .i64 r ∧ r = bR b := by
 refine aL Tryd.func100 rfl rfl ?_
 refine ao 1 rfl ?_
 refine wR 3 [] 2 2 [] [(2, (iI 0))] trivial rfl fun _ => ?_
 refine wR 1 [] 3 3 [] [(3, (.bool b))] trivial rfl fun _ => ?_
 refine am 1 2 (v := b) rfl rfl rfl rfl (fun z => ?_) (fun z => ?_)
 ·
  have A := z
  try simp only [BS] at A
  refine wR 1 [] 2 2 [] [(2, (iI 1))] trivial rfl fun _ => ?_
  refine ah ⟨.inr rfl, _, rfl, 1, rfl, rfl, (by simp only [bR, z]; rfl)⟩
 ·
  have A := z
  try simp only [BS] at A
  refine wR 1 [] 2 2 [] [(2, (iI 0))] trivial rfl fun _ => ?_
  refine ah ⟨.inr rfl, _, rfl, 0, rfl, rfl, (by simp only [bR, z]; rfl)⟩
theorem jI (ex : FuncId) (b : Bool) (H : Heap) : C Tryd.prog 1 (KT 60 ex 37 tabC) 100 [(.bool b)] H fun v H' => v = (iI (bR b)) ∧ H' = H :=
 cq (one_c ex b H) (by rintro _ _ ⟨_, rfl, rfl, rfl⟩; exact ⟨rfl, rfl⟩)
theorem run_c (ex : FuncId) (op : Int) (a : Int) (H : Heap) : C Tryd.prog 1 (KT 60 ex 37 tabC) 93 [(iI op), (iI a)] H fun v H' => ∃ (r : Int), H' = H ∧ v = .int .i64 r ∧ r = (if op = 15 then w64 (0 - a) else w64 (-1 - a)) := by
 refine aL Tryd.func93 rfl rfl ?_
 refine ao 1 rfl ?_
 refine wR 3 [] 4 4 [] [(4, (iI 0))] trivial rfl fun _ => ?_
 refine wR 1 [] 5 6 [] [(6, (.bool (op == 15)))] trivial rfl fun _ => ?_
 refine am 1 2 (v := (op == 15)) rfl rfl rfl rfl (fun z => ?_) (fun z => ?_)
 ·
  try simp only [BS] at z
  refine wR 1 [(1, .w)] 7 8 [4] [(4, (iI (IntKind.i64.wrap (0 - a))))] trivial rfl fun _ => ?_
  refine ah ⟨.inr rfl, _, rfl, IntKind.i64.wrap (0 - a), rfl, rfl, (by first | (rw [if_pos (by omega)]) | (rw [if_neg (by omega)]))⟩
 ·
  try simp only [BS] at z
  refine wR 1 [(1, .w)] 9 10 [4] [(4, (iI (IntKind.i64.wrap ((-1) - a))))] trivial rfl fun _ => ?_
  refine ah ⟨.inr rfl, _, rfl, IntKind.i64.wrap ((-1) - a), rfl, rfl, (by first | (rw [if_pos (by omega)]) | (rw [if_neg (by omega)]))⟩
theorem rbin_c (ex : FuncId) (op : Int) (a : Int) (b : Int) (H : Heap) (ho : 17 ≤ op ∧ op ≤ 32) : C Tryd.prog 1 (KT 60 ex 37 tabC) 95 [(iI op), (iI a), (iI b)] H fun v H' => ∃ (r : Int), H' = H ∧ v = .int .i64 r ∧ r = rbV op a b := by
 refine aL Tryd.func95 rfl rfl ?_
 refine ao 1 rfl ?_
 refine wR 2 [] 6 6 [] [(6, (iI 0))] trivial rfl fun _ => ?_
 refine wR 3 [(2, .w)] 8 10 [7] [(7, (.int .u64 (IntKind.u64.wrap (aK .and .i64 b 63))))] trivial rfl fun _ => ?_
 refine wR 3 [] 11 11 [] [(11, (iI op))] trivial rfl fun _ => ?_
 refine wR 1 [] 12 13 [] [(12, (.bool (op == 17)))] trivial rfl fun _ => ?_
 refine am 1 1 (v := (op == 17)) rfl rfl rfl rfl (fun c5 => ?_) (fun c5 => ?_)
 ·
  try simp only [BS] at c5
  refine wR 1 [(2, .w)] 14 16 [6] [(6, (iI (IntKind.i64.wrap (a + b))))] trivial rfl fun _ => ?_
  refine ah ⟨.inr rfl, _, rfl, IntKind.i64.wrap (a + b), rfl, rfl, (by unfold rbV; (repeat (first | rw [if_pos (by omega)] | rw [if_neg (by omega)])); try rfl)⟩
 ·
  try simp only [BS] at c5
  refine wR 1 [] 17 18 [] [(17, (.bool (op == 18)))] trivial rfl fun _ => ?_
  refine am 1 1 (v := (op == 18)) rfl rfl rfl rfl (fun c8 => ?_) (fun c8 => ?_)
  ·
   try simp only [BS] at c8
   refine wR 1 [(2, .w)] 19 21 [6] [(6, (iI (IntKind.i64.wrap (a - b))))] trivial rfl fun _ => ?_
   refine ah ⟨.inr rfl, _, rfl, IntKind.i64.wrap (a - b), rfl, rfl, (by unfold rbV; (repeat (first | rw [if_pos (by omega)] | rw [if_neg (by omega)])); try rfl)⟩
  ·
   try simp only [BS] at c8
   refine wR 1 [] 22 23 [] [(22, (.bool (op == 19)))] trivial rfl fun _ => ?_
   refine am 1 1 (v := (op == 19)) rfl rfl rfl rfl (fun z => ?_) (fun z => ?_)
   ·
    try simp only [BS] at z
    refine wR 1 [(2, .w)] 24 26 [6] [(6, (iI (IntKind.i64.wrap (a * b))))] trivial rfl fun _ => ?_
    refine ah ⟨.inr rfl, _, rfl, IntKind.i64.wrap (a * b), rfl, rfl, (by unfold rbV; (repeat (first | rw [if_pos (by omega)] | rw [if_neg (by omega)])); try rfl)⟩
   ·
    try simp only [BS] at z
    refine wR 1 [] 27 28 [] [(27, (.bool (op == 20)))] trivial rfl fun _ => ?_
    refine am 2 1 (v := (op == 20)) rfl rfl rfl rfl (fun A => ?_) (fun A => ?_)
    ·
     try simp only [BS] at A
     refine wR 1 [] 29 30 [] [(30, (.bool (b == 0)))] trivial rfl fun _ => ?_
     refine am 1 3 (v := (b == 0)) rfl rfl rfl rfl (fun I => ?_) (fun I => ?_)
     ·
      try simp only [BS] at I
      refine wR 1 [] 6 6 [] [(6, (iI 0))] trivial rfl fun _ => ?_
      refine ah ⟨.inr rfl, _, rfl, 0, rfl, rfl, (by unfold rbV; (repeat (first | rw [if_pos (by omega)] | rw [if_neg (by omega)])); try rfl)⟩
     ·
      try simp only [BS] at I
      refine wR 1 [] 31 32 [] [(32, (.bool (b == (-1))))] trivial rfl fun _ => ?_
      refine am 1 2 (v := (b == (-1))) rfl rfl rfl rfl (fun J => ?_) (fun J => ?_)
      ·
       try simp only [BS] at J
       refine wR 1 [(1, .w)] 33 34 [6] [(6, (iI (IntKind.i64.wrap (0 - a))))] trivial rfl fun _ => ?_
       refine ah ⟨.inr rfl, _, rfl, IntKind.i64.wrap (0 - a), rfl, rfl, (by unfold rbV; (repeat (first | rw [if_pos (by omega)] | rw [if_neg (by omega)])); try rfl)⟩
      ·
       try simp only [BS] at J
       refine wR 1 [(2, .w)] 35 37 [6] [(6, (iI (IntKind.i64.wrap (Int.tdiv a b))))] (vA (show b ≠ 0 from by first | exact byV_nn b | omega) trivial) rfl fun _ => ?_
       refine ah ⟨.inr rfl, _, rfl, IntKind.i64.wrap (Int.tdiv a b), rfl, rfl, (by unfold rbV; (repeat (first | rw [if_pos (by omega)] | rw [if_neg (by omega)])); try rfl)⟩
    ·
     try simp only [BS] at A
     refine wR 1 [] 38 39 [] [(38, (.bool (op == 21)))] trivial rfl fun _ => ?_
     refine am 2 1 (v := (op == 21)) rfl rfl rfl rfl (fun O => ?_) (fun O => ?_)
     ·
      try simp only [BS] at O
      refine wR 1 [] 40 45 [] [(45, (.bool ((b == 0) || (b == (-1)))))] trivial rfl fun _ => ?_
      refine am 1 2 (v := ((b == 0) || (b == (-1)))) rfl rfl rfl rfl (fun T => ?_) (fun T => ?_)
      ·
       try simp only [BS] at T
       refine wR 1 [] 6 6 [] [(6, (iI 0))] trivial rfl fun _ => ?_
       refine ah ⟨.inr rfl, _, rfl, 0, rfl, rfl, (by unfold rbV; (repeat (first | rw [if_pos (by omega)] | rw [if_neg (by omega)])); try rfl)⟩
      ·
       try simp only [BS] at T
       refine wR 1 [] 46 48 [6] [(6, (iI (Int.tmod a b)))] (vA (show b ≠ 0 from by first | exact byV_nn b | omega) trivial) rfl fun _ => ?_
       refine ah ⟨.inr rfl, _, rfl, Int.tmod a b, rfl, rfl, (by unfold rbV; (repeat (first | rw [if_pos (by omega)] | rw [if_neg (by omega)])); try rfl)⟩
     ·
      try simp only [BS] at O
      refine wR 1 [] 49 50 [] [(49, (.bool (op == 22)))] trivial rfl fun _ => ?_
      refine am 1 1 (v := (op == 22)) rfl rfl rfl rfl (fun U => ?_) (fun U => ?_)
      ·
       try simp only [BS] at U
       refine wR 1 [] 51 53 [6] [(6, (iI (aK .and .i64 a b)))] trivial rfl fun _ => ?_
       refine ah ⟨.inr rfl, _, rfl, aK .and .i64 a b, rfl, rfl, (by unfold rbV; (repeat (first | rw [if_pos (by omega)] | rw [if_neg (by omega)])); try rfl)⟩
      ·
       try simp only [BS] at U
       refine wR 1 [] 54 55 [] [(54, (.bool (op == 23)))] trivial rfl fun _ => ?_
       refine am 1 1 (v := (op == 23)) rfl rfl rfl rfl (fun V => ?_) (fun V => ?_)
       ·
        try simp only [BS] at V
        refine wR 1 [] 56 58 [6] [(6, (iI (aK .or .i64 a b)))] trivial rfl fun _ => ?_
        refine ah ⟨.inr rfl, _, rfl, aK .or .i64 a b, rfl, rfl, (by unfold rbV; (repeat (first | rw [if_pos (by omega)] | rw [if_neg (by omega)])); try rfl)⟩
       ·
        try simp only [BS] at V
        refine wR 1 [] 59 60 [] [(59, (.bool (op == 24)))] trivial rfl fun _ => ?_
        refine am 1 1 (v := (op == 24)) rfl rfl rfl rfl (fun Z => ?_) (fun Z => ?_)
        ·
         try simp only [BS] at Z
         refine wR 1 [] 61 63 [6] [(6, (iI (aK .xor .i64 a b)))] trivial rfl fun _ => ?_
         refine ah ⟨.inr rfl, _, rfl, aK .xor .i64 a b, rfl, rfl, (by unfold rbV; (repeat (first | rw [if_pos (by omega)] | rw [if_neg (by omega)])); try rfl)⟩
        ·
         try simp only [BS] at Z
         refine wR 1 [] 64 65 [] [(64, (.bool (op == 25)))] trivial rfl fun _ => ?_
         refine am 1 1 (v := (op == 25)) rfl rfl rfl rfl (fun ad => ?_) (fun ad => ?_)
         ·
          try simp only [BS] at ad
          refine wR 1 [(1, .w), (4, .w)] 66 70 [6] [(6, (iI (IntKind.i64.wrap (IntKind.u64.wrap ((IntKind.u64.wrap a) * 2 ^ (Nat.min (IntKind.u64.wrap (aK .and .i64 b 63)).toNat 64))))))] (vA (show (0 : Int) ≤ IntKind.u64.wrap (aK .and .i64 b 63) from by first | exact byV_nn b | omega) trivial) rfl fun _ => ?_
          refine ah ⟨.inr rfl, _, rfl, IntKind.i64.wrap (IntKind.u64.wrap ((IntKind.u64.wrap a) * 2 ^ (Nat.min (IntKind.u64.wrap (aK .and .i64 b 63)).toNat 64))), rfl, rfl, (by unfold rbV; (repeat (first | rw [if_pos (by omega)] | rw [if_neg (by omega)])); try rfl)⟩
         ·
          try simp only [BS] at ad
          refine wR 1 [] 71 72 [] [(71, (.bool (op == 26)))] trivial rfl fun _ => ?_
          refine am 1 1 (v := (op == 26)) rfl rfl rfl rfl (fun ag => ?_) (fun ag => ?_)
          ·
           try simp only [BS] at ag
           refine wR 1 [(1, .w), (4, .w)] 73 77 [6] [(6, (iI (IntKind.i64.wrap (Int.fdiv (IntKind.u64.wrap a) (2 ^ (Nat.min (IntKind.u64.wrap (aK .and .i64 b 63)).toNat 64))))))] (vA (show (0 : Int) ≤ IntKind.u64.wrap (aK .and .i64 b 63) from by first | exact byV_nn b | omega) trivial) rfl fun _ => ?_
           refine ah ⟨.inr rfl, _, rfl, IntKind.i64.wrap (Int.fdiv (IntKind.u64.wrap a) (2 ^ (Nat.min (IntKind.u64.wrap (aK .and .i64 b 63)).toNat 64))), rfl, rfl, (by unfold rbV; (repeat (first | rw [if_pos (by omega)] | rw [if_neg (by omega)])); try rfl)⟩
          ·
           try simp only [BS] at ag
           refine wR 1 [] 78 79 [] [(78, (.bool (op == 27)))] trivial rfl fun _ => ?_
           refine am 1 1 (v := (op == 27)) rfl rfl rfl rfl (fun aj => ?_) (fun aj => ?_)
           ·
            try simp only [BS] at aj
            refine wR 1 [] 80 82 [6] [(6, (iI (Int.fdiv a (2 ^ (Nat.min (IntKind.u64.wrap (aK .and .i64 b 63)).toNat 64)))))] (vA (show (0 : Int) ≤ IntKind.u64.wrap (aK .and .i64 b 63) from by first | exact byV_nn b | omega) trivial) rfl fun _ => ?_
            refine ah ⟨.inr rfl, _, rfl, Int.fdiv a (2 ^ (Nat.min (IntKind.u64.wrap (aK .and .i64 b 63)).toNat 64)), rfl, rfl, (by unfold rbV; (repeat (first | rw [if_pos (by omega)] | rw [if_neg (by omega)])); try rfl)⟩
           ·
            try simp only [BS] at aj
            refine wR 1 [] 83 84 [] [(83, (.bool (op == 28)))] trivial rfl fun _ => ?_
            refine am 1 1 (v := (op == 28)) rfl rfl rfl rfl (fun ap => ?_) (fun ap => ?_)
            ·
             try simp only [BS] at ap
             refine wR 1 [(3, .o (iI (bR (a == b))))] 85 88 [6] [(6, (iI (bR (a == b))))] (vA (jI ex (a == b) H) trivial) rfl fun _ => ?_
             refine ah ⟨.inr rfl, _, rfl, bR (a == b), rfl, rfl, (by unfold rbV; (repeat (first | rw [if_pos (by omega)] | rw [if_neg (by omega)])); try rfl)⟩
            ·
             try simp only [BS] at ap
             refine wR 1 [] 89 90 [] [(89, (.bool (op == 29)))] trivial rfl fun _ => ?_
             refine am 1 1 (v := (op == 29)) rfl rfl rfl rfl (fun aq => ?_) (fun aq => ?_)
             ·
              try simp only [BS] at aq
              refine wR 1 [(3, .o (iI (bR (a != b))))] 91 94 [6] [(6, (iI (bR (a != b))))] (vA (jI ex (a != b) H) trivial) rfl fun _ => ?_
              refine ah ⟨.inr rfl, _, rfl, bR (a != b), rfl, rfl, (by unfold rbV; (repeat (first | rw [if_pos (by omega)] | rw [if_neg (by omega)])); try rfl)⟩
             ·
              try simp only [BS] at aq
              refine wR 1 [] 95 96 [] [(95, (.bool (op == 30)))] trivial rfl fun _ => ?_
              refine am 1 1 (v := (op == 30)) rfl rfl rfl rfl (fun ar => ?_) (fun ar => ?_)
              ·
               try simp only [BS] at ar
               refine wR 1 [(3, .o (iI (bR (decide (a < b)))))] 97 100 [6] [(6, (iI (bR (decide (a < b)))))] (vA (jI ex (decide (a < b)) H) trivial) rfl fun _ => ?_
               refine ah ⟨.inr rfl, _, rfl, bR (decide (a < b)), rfl, rfl, (by unfold rbV; (repeat (first | rw [if_pos (by omega)] | rw [if_neg (by omega)])); try rfl)⟩
              ·
               try simp only [BS] at ar
               refine wR 1 [] 101 102 [] [(101, (.bool (op == 31)))] trivial rfl fun _ => ?_
               refine am 1 3 (v := (op == 31)) rfl rfl rfl rfl (fun av => ?_) (fun av => ?_)
               ·
                try simp only [BS] at av
                refine wR 1 [(3, .o (iI (bR (decide (a ≤ b)))))] 103 106 [6] [(6, (iI (bR (decide (a ≤ b)))))] (vA (jI ex (decide (a ≤ b)) H) trivial) rfl fun _ => ?_
                refine ah ⟨.inr rfl, _, rfl, bR (decide (a ≤ b)), rfl, rfl, (by unfold rbV; (repeat (first | rw [if_pos (by omega)] | rw [if_neg (by omega)])); try rfl)⟩
               ·
                try simp only [BS] at av
                refine wR 1 [(1, .w), (3, .w), (5, .o (iI (bR (decide (IntKind.u64.wrap a < IntKind.u64.wrap b)))))] 107 112 [6] [(6, (iI (bR (decide (IntKind.u64.wrap a < IntKind.u64.wrap b)))))] (vA (jI ex (decide (IntKind.u64.wrap a < IntKind.u64.wrap b)) H) trivial) rfl fun _ => ?_
                refine ah ⟨.inr rfl, _, rfl, bR (decide (IntKind.u64.wrap a < IntKind.u64.wrap b)), rfl, rfl, (by unfold rbV; (repeat (first | rw [if_pos (by omega)] | rw [if_neg (by omega)])); try rfl)⟩
theorem bJ {op a b : Int} (ha : in64 a) (hb : in64 b) (ho : 17 ≤ op ∧ op ≤ 32) : rbV op a b = binV (op - 13) a b := by
 have hd : ∃ k : Fin 16, op = (k.val : Int) + 17 := ⟨⟨(op - 17).toNat, by omega⟩, by show op = ((op - 17).toNat : Int) + 17; omega⟩
 obtain ⟨k, rfl⟩ := hd
 have q : ∀ (k : Nat), ((k : Int) + 17 - 13) = (k : Int) + 4 := fun k => by omega
 rw [q]
 match k with
 | ⟨3, _⟩ =>
  show (if b = 0 then 0 else if b = -1 then w64 (0 - a) else w64 (Int.tdiv a b)) = quoV a b
  unfold quoV
  by_cases h0 : b = 0
  ·
   rw [if_pos h0, h0]; rfl
  ·
   rw [if_neg h0, show (b == 0) = false by simpa using h0]
   by_cases z : b = -1
   ·
    rw [if_pos z, z]; rfl
   ·
    rw [if_neg z, show (b == -1) = false by simpa using z]; rfl
 | ⟨4, _⟩ =>
  show (if b = 0 ∨ b = -1 then 0 else Int.tmod a b) = (bif b == 0 then 0 else w64 (a - w64 (quoV a b * b)))
  by_cases h0 : b = 0
  ·
   rw [if_pos (.inl h0), h0]; rfl
  ·
   rw [show (b == 0) = false by simpa using h0, cond_false]
   by_cases z : b = -1
   ·
    rw [if_pos (.inr z), z]
    show 0 = w64 (a - w64 (w64 (0 - a) * -1))
    have A : bv (IntKind.i64.wrap (0 - a) * -1) = bv a := by
     apply BitVec.eq_of_toInt_eq
     rw [← iy, ← iy, IntKind.wrap_i64, IntKind.wrap_i64, IntKind.wrap_i64]
     omega
    have I : w64 (w64 (0 - a) * -1) = a := by
     show IntKind.i64.wrap (IntKind.i64.wrap (0 - a) * -1) = a
     rw [iy, A, bv_toInt ha]
    rw [I, Int.sub_self]; rfl
   ·
    rw [if_neg (by omega)]; exact rem_eq ha hb h0 z
 | ⟨8, _⟩ => exact shl_u a _
 | ⟨0, _⟩ => rfl
 | ⟨1, _⟩ => rfl
 | ⟨2, _⟩ => rfl
 | ⟨5, _⟩ => rfl
 | ⟨6, _⟩ => rfl
 | ⟨7, _⟩ => rfl
 | ⟨9, _⟩ => rfl
 | ⟨10, _⟩ => rfl
 | ⟨11, _⟩ => rfl
 | ⟨12, _⟩ => rfl
 | ⟨13, _⟩ => rfl
 | ⟨14, _⟩ => rfl
 | ⟨15, _⟩ => rfl
end Go.Proofs.YtlabedbmgmfbaaaDoor.jw
