/-
 Numbers reduced to a range, operators. No condition.
-/
import Derived.Test.YtgjpflldlegmjaaZPRD
import Derived.Test.YtgjpflldlegmjaaZPRC
import Derived.Test.YtgjpflldlegmjaaChecked
noncomputable section
namespace Go.Proofs.Ytgjpflldlegmjaa.p1
open Go.R
set_option maxRecDepth 10000
set_option linter.unusedVariables false
def pickV (n m : Int) : Int := bif decide (Int.tmod n m < 0) then Int.tmod n m + m else Int.tmod n m
theorem pick_rng {n m : Int} (hm : 0 < m) : 0 ≤ pickV n m ∧ pickV n m < m := by
 have z : -m < n.tmod m := Int.lt_tmod_of_pos n hm
 have A : n.tmod m < m := Int.tmod_lt_of_pos n hm
 unfold pickV
 by_cases hc : n.tmod m < 0
 ·
  simp only [decide_eq_true hc, cond_true]; omega
 ·
  simp only [decide_eq_false hc, cond_false]; omega
def ariV (s : List UInt8) : Int × Int × Bool := if s = [43] then (4, 6, false) else if s = [45] then (5, 6, false) else if s = [42] then (6, 7, false) else if s = [47] then (7, 7, false) else if s = [37] then (8, 7, false) else (0, 0, false)
def opV (s : List UInt8) : Int × Int × Bool := if s = [124] then (10, 0, false) else if s = [94] then (11, 1, false) else if s = [38] then (9, 2, false) else if s = [61, 61] then (15, 3, false) else if s = [33, 61] then (16, 3, false) else if s = [60] then (17, 4, false) else if s = [60, 61] then (18, 4, false) else if s = [62] then (17, 4, true) else if s = [62, 61] then (18, 4, true) else if s = [60, 60] then (12, 5, false) else if s = [62, 62] then (14, 5, false) else if s = [62, 62, 62] then (13, 5, false) else ariV s
theorem arith_c (ex : FuncId) (s : List UInt8) (H : Heap) : C Try.prog 0 (KX ex) 102 [(.string ⟨⟨s⟩⟩)] H fun v H' => ∃ (x : Int) (y : Int) (z : Bool), H' = H ∧ v = .tuple ⟨[.int .i64 x, .int .i64 y, .bool z]⟩ ∧ x = (ariV s).1 ∧ y = (ariV s).2.1 ∧ z = (ariV s).2.2 := by
 refine c_enter Try.func102 rfl rfl ?_
 refine wk_foc 1 rfl ?_
 refine wR 3 [] 2 4 [] [(2, (iI 0)), (3, (iI 0)), (4, (.bool false))] trivial rfl fun _ => ?_
 refine wR 3 [] 5 5 [] [(5, (.string ⟨⟨s⟩⟩))] trivial rfl fun _ => ?_
 refine wR 1 [] 6 7 [] [(6, (.bool (s == ([43] : List UInt8))))] trivial rfl fun _ => ?_
 refine wk_if 1 1 (v := (s == ([43] : List UInt8))) rfl rfl rfl rfl (fun c4 => ?_) (fun c4 => ?_)
 ·
  try simp only [BS] at c4
  refine wR 1 [] 2 4 [] [(2, (iI 4)), (3, (iI 6)), (4, (.bool false))] trivial rfl fun _ => ?_
  refine wk_ret ⟨.inr rfl, _, rfl, 4, 6, false, rfl, rfl, (by simp only [ariV, *, ↓reduceIte]; try (first | decide | rfl | simp)), (by simp only [ariV, *, ↓reduceIte]; try (first | decide | rfl | simp)), (by simp only [ariV, *, ↓reduceIte]; try (first | decide | rfl | simp))⟩
 ·
  try simp only [BS] at c4
  refine wR 1 [] 8 9 [] [(8, (.bool (s == ([45] : List UInt8))))] trivial rfl fun _ => ?_
  refine wk_if 1 1 (v := (s == ([45] : List UInt8))) rfl rfl rfl rfl (fun c7 => ?_) (fun c7 => ?_)
  ·
   try simp only [BS] at c7
   refine wR 1 [] 2 4 [] [(2, (iI 5)), (3, (iI 6)), (4, (.bool false))] trivial rfl fun _ => ?_
   refine wk_ret ⟨.inr rfl, _, rfl, 5, 6, false, rfl, rfl, (by simp only [ariV, *, ↓reduceIte]; try (first | decide | rfl | simp)), (by simp only [ariV, *, ↓reduceIte]; try (first | decide | rfl | simp)), (by simp only [ariV, *, ↓reduceIte]; try (first | decide | rfl | simp))⟩
  ·
   try simp only [BS] at c7
   refine wR 1 [] 10 11 [] [(10, (.bool (s == ([42] : List UInt8))))] trivial rfl fun _ => ?_
   refine wk_if 1 1 (v := (s == ([42] : List UInt8))) rfl rfl rfl rfl (fun A => ?_) (fun A => ?_)
   ·
    try simp only [BS] at A
    refine wR 1 [] 2 4 [] [(2, (iI 6)), (3, (iI 7)), (4, (.bool false))] trivial rfl fun _ => ?_
    refine wk_ret ⟨.inr rfl, _, rfl, 6, 7, false, rfl, rfl, (by simp only [ariV, *, ↓reduceIte]; try (first | decide | rfl | simp)), (by simp only [ariV, *, ↓reduceIte]; try (first | decide | rfl | simp)), (by simp only [ariV, *, ↓reduceIte]; try (first | decide | rfl | simp))⟩
   ·
    try simp only [BS] at A
    refine wR 1 [] 12 13 [] [(12, (.bool (s == ([47] : List UInt8))))] trivial rfl fun _ => ?_
    refine wk_if 1 1 (v := (s == ([47] : List UInt8))) rfl rfl rfl rfl (fun E => ?_) (fun E => ?_)
    ·
     try simp only [BS] at E
     refine wR 1 [] 2 4 [] [(2, (iI 7)), (3, (iI 7)), (4, (.bool false))] trivial rfl fun _ => ?_
     refine wk_ret ⟨.inr rfl, _, rfl, 7, 7, false, rfl, rfl, (by simp only [ariV, *, ↓reduceIte]; try (first | decide | rfl | simp)), (by simp only [ariV, *, ↓reduceIte]; try (first | decide | rfl | simp)), (by simp only [ariV, *, ↓reduceIte]; try (first | decide | rfl | simp))⟩
    ·
     try simp only [BS] at E
     refine wR 1 [] 14 15 [] [(14, (.bool (s == ([37] : List UInt8))))] trivial rfl fun _ => ?_
     refine wk_if 1 3 (v := (s == ([37] : List UInt8))) rfl rfl rfl rfl (fun I => ?_) (fun I => ?_)
     ·
      try simp only [BS] at I
      refine wR 1 [] 2 4 [] [(2, (iI 8)), (3, (iI 7)), (4, (.bool false))] trivial rfl fun _ => ?_
      refine wk_ret ⟨.inr rfl, _, rfl, 8, 7, false, rfl, rfl, (by simp only [ariV, *, ↓reduceIte]; try (first | decide | rfl | simp)), (by simp only [ariV, *, ↓reduceIte]; try (first | decide | rfl | simp)), (by simp only [ariV, *, ↓reduceIte]; try (first | decide | rfl | simp))⟩
     ·
      try simp only [BS] at I
      refine wR 1 [] 2 4 [] [(2, (iI 0)), (3, (iI 0)), (4, (.bool false))] trivial rfl fun _ => ?_
      refine wk_ret ⟨.inr rfl, _, rfl, 0, 0, false, rfl, rfl, (by simp only [ariV, *, ↓reduceIte]; try (first | decide | rfl | simp)), (by simp only [ariV, *, ↓reduceIte]; try (first | decide | rfl | simp)), (by simp only [ariV, *, ↓reduceIte]; try (first | decide | rfl | simp))⟩
theorem arith_c_q (ex : FuncId) (s : List UInt8) (H : Heap) : C Try.prog 0 (KX ex) 102 [(.string ⟨⟨s⟩⟩)] H fun v H' => v = (.tuple ⟨[(iI ((ariV s).1)), (iI ((ariV s).2.1)), (.bool ((ariV s).2.2))]⟩) ∧ H' = H :=
 cq (arith_c ex s H) (by rintro _ _ ⟨_, _, _, rfl, rfl, rfl, rfl, rfl⟩; exact ⟨rfl, rfl⟩)
theorem oper_c (ex : FuncId) (s : List UInt8) (H : Heap) : C Try.prog 0 (KX ex) 88 [(.string ⟨⟨s⟩⟩)] H fun v H' => ∃ (x : Int) (y : Int) (z : Bool), H' = H ∧ v = .tuple ⟨[.int .i64 x, .int .i64 y, .bool z]⟩ ∧ x = (opV s).1 ∧ y = (opV s).2.1 ∧ z = (opV s).2.2 := by
 refine c_enter Try.func88 rfl rfl ?_
 refine wk_foc 1 rfl ?_
 refine wR 3 [] 2 4 [] [(2, (iI 0)), (3, (iI 0)), (4, (.bool false))] trivial rfl fun _ => ?_
 refine wR 3 [] 5 5 [] [(5, (.string ⟨⟨s⟩⟩))] trivial rfl fun _ => ?_
 refine wR 1 [] 6 7 [] [(6, (.bool (s == ([124] : List UInt8))))] trivial rfl fun _ => ?_
 refine wk_if 1 1 (v := (s == ([124] : List UInt8))) rfl rfl rfl rfl (fun c4 => ?_) (fun c4 => ?_)
 ·
  try simp only [BS] at c4
  refine wR 1 [] 2 4 [] [(2, (iI 10)), (3, (iI 0)), (4, (.bool false))] trivial rfl fun _ => ?_
  refine wk_ret ⟨.inr rfl, _, rfl, 10, 0, false, rfl, rfl, (by simp only [opV, *, ↓reduceIte]; try (first | decide | rfl | simp)), (by simp only [opV, *, ↓reduceIte]; try (first | decide | rfl | simp)), (by simp only [opV, *, ↓reduceIte]; try (first | decide | rfl | simp))⟩
 ·
  try simp only [BS] at c4
  refine wR 1 [] 8 9 [] [(8, (.bool (s == ([94] : List UInt8))))] trivial rfl fun _ => ?_
  refine wk_if 1 1 (v := (s == ([94] : List UInt8))) rfl rfl rfl rfl (fun c7 => ?_) (fun c7 => ?_)
  ·
   try simp only [BS] at c7
   refine wR 1 [] 2 4 [] [(2, (iI 11)), (3, (iI 1)), (4, (.bool false))] trivial rfl fun _ => ?_
   refine wk_ret ⟨.inr rfl, _, rfl, 11, 1, false, rfl, rfl, (by simp only [opV, *, ↓reduceIte]; try (first | decide | rfl | simp)), (by simp only [opV, *, ↓reduceIte]; try (first | decide | rfl | simp)), (by simp only [opV, *, ↓reduceIte]; try (first | decide | rfl | simp))⟩
  ·
   try simp only [BS] at c7
   refine wR 1 [] 10 11 [] [(10, (.bool (s == ([38] : List UInt8))))] trivial rfl fun _ => ?_
   refine wk_if 1 1 (v := (s == ([38] : List UInt8))) rfl rfl rfl rfl (fun A => ?_) (fun A => ?_)
   ·
    try simp only [BS] at A
    refine wR 1 [] 2 4 [] [(2, (iI 9)), (3, (iI 2)), (4, (.bool false))] trivial rfl fun _ => ?_
    refine wk_ret ⟨.inr rfl, _, rfl, 9, 2, false, rfl, rfl, (by simp only [opV, *, ↓reduceIte]; try (first | decide | rfl | simp)), (by simp only [opV, *, ↓reduceIte]; try (first | decide | rfl | simp)), (by simp only [opV, *, ↓reduceIte]; try (first | decide | rfl | simp))⟩
   ·
    try simp only [BS] at A
    refine wR 1 [] 12 13 [] [(12, (.bool (s == ([61, 61] : List UInt8))))] trivial rfl fun _ => ?_
    refine wk_if 1 1 (v := (s == ([61, 61] : List UInt8))) rfl rfl rfl rfl (fun E => ?_) (fun E => ?_)
    ·
     try simp only [BS] at E
     refine wR 1 [] 2 4 [] [(2, (iI 15)), (3, (iI 3)), (4, (.bool false))] trivial rfl fun _ => ?_
     refine wk_ret ⟨.inr rfl, _, rfl, 15, 3, false, rfl, rfl, (by simp only [opV, *, ↓reduceIte]; try (first | decide | rfl | simp)), (by simp only [opV, *, ↓reduceIte]; try (first | decide | rfl | simp)), (by simp only [opV, *, ↓reduceIte]; try (first | decide | rfl | simp))⟩
    ·
     try simp only [BS] at E
     refine wR 1 [] 14 15 [] [(14, (.bool (s == ([33, 61] : List UInt8))))] trivial rfl fun _ => ?_
     refine wk_if 1 1 (v := (s == ([33, 61] : List UInt8))) rfl rfl rfl rfl (fun I => ?_) (fun I => ?_)
     ·
      try simp only [BS] at I
      refine wR 1 [] 2 4 [] [(2, (iI 16)), (3, (iI 3)), (4, (.bool false))] trivial rfl fun _ => ?_
      refine wk_ret ⟨.inr rfl, _, rfl, 16, 3, false, rfl, rfl, (by simp only [opV, *, ↓reduceIte]; try (first | decide | rfl | simp)), (by simp only [opV, *, ↓reduceIte]; try (first | decide | rfl | simp)), (by simp only [opV, *, ↓reduceIte]; try (first | decide | rfl | simp))⟩
     ·
      try simp only [BS] at I
      refine wR 1 [] 16 17 [] [(16, (.bool (s == ([60] : List UInt8))))] trivial rfl fun _ => ?_
      refine wk_if 1 1 (v := (s == ([60] : List UInt8))) rfl rfl rfl rfl (fun J => ?_) (fun J => ?_)
      ·
       try simp only [BS] at J
       refine wR 1 [] 2 4 [] [(2, (iI 17)), (3, (iI 4)), (4, (.bool false))] trivial rfl fun _ => ?_
       refine wk_ret ⟨.inr rfl, _, rfl, 17, 4, false, rfl, rfl, (by simp only [opV, *, ↓reduceIte]; try (first | decide | rfl | simp)), (by simp only [opV, *, ↓reduceIte]; try (first | decide | rfl | simp)), (by simp only [opV, *, ↓reduceIte]; try (first | decide | rfl | simp))⟩
      ·
       try simp only [BS] at J
       refine wR 1 [] 18 19 [] [(18, (.bool (s == ([60, 61] : List UInt8))))] trivial rfl fun _ => ?_
       refine wk_if 1 1 (v := (s == ([60, 61] : List UInt8))) rfl rfl rfl rfl (fun N => ?_) (fun N => ?_)
       ·
        try simp only [BS] at N
        refine wR 1 [] 2 4 [] [(2, (iI 18)), (3, (iI 4)), (4, (.bool false))] trivial rfl fun _ => ?_
        refine wk_ret ⟨.inr rfl, _, rfl, 18, 4, false, rfl, rfl, (by simp only [opV, *, ↓reduceIte]; try (first | decide | rfl | simp)), (by simp only [opV, *, ↓reduceIte]; try (first | decide | rfl | simp)), (by simp only [opV, *, ↓reduceIte]; try (first | decide | rfl | simp))⟩
       ·
        try simp only [BS] at N
        refine wR 1 [] 20 21 [] [(20, (.bool (s == ([62] : List UInt8))))] trivial rfl fun _ => ?_
        refine wk_if 1 1 (v := (s == ([62] : List UInt8))) rfl rfl rfl rfl (fun O => ?_) (fun O => ?_)
        ·
         try simp only [BS] at O
         refine wR 1 [] 2 4 [] [(2, (iI 17)), (3, (iI 4)), (4, (.bool true))] trivial rfl fun _ => ?_
         refine wk_ret ⟨.inr rfl, _, rfl, 17, 4, true, rfl, rfl, (by simp only [opV, *, ↓reduceIte]; try (first | decide | rfl | simp)), (by simp only [opV, *, ↓reduceIte]; try (first | decide | rfl | simp)), (by simp only [opV, *, ↓reduceIte]; try (first | decide | rfl | simp))⟩
        ·
         try simp only [BS] at O
         refine wR 1 [] 22 23 [] [(22, (.bool (s == ([62, 61] : List UInt8))))] trivial rfl fun _ => ?_
         refine wk_if 1 1 (v := (s == ([62, 61] : List UInt8))) rfl rfl rfl rfl (fun T => ?_) (fun T => ?_)
         ·
          try simp only [BS] at T
          refine wR 1 [] 2 4 [] [(2, (iI 18)), (3, (iI 4)), (4, (.bool true))] trivial rfl fun _ => ?_
          refine wk_ret ⟨.inr rfl, _, rfl, 18, 4, true, rfl, rfl, (by simp only [opV, *, ↓reduceIte]; try (first | decide | rfl | simp)), (by simp only [opV, *, ↓reduceIte]; try (first | decide | rfl | simp)), (by simp only [opV, *, ↓reduceIte]; try (first | decide | rfl | simp))⟩
         ·
          try simp only [BS] at T
          refine wR 1 [] 24 25 [] [(24, (.bool (s == ([60, 60] : List UInt8))))] trivial rfl fun _ => ?_
          refine wk_if 1 1 (v := (s == ([60, 60] : List UInt8))) rfl rfl rfl rfl (fun U => ?_) (fun U => ?_)
          ·
           try simp only [BS] at U
           refine wR 1 [] 2 4 [] [(2, (iI 12)), (3, (iI 5)), (4, (.bool false))] trivial rfl fun _ => ?_
           refine wk_ret ⟨.inr rfl, _, rfl, 12, 5, false, rfl, rfl, (by simp only [opV, *, ↓reduceIte]; try (first | decide | rfl | simp)), (by simp only [opV, *, ↓reduceIte]; try (first | decide | rfl | simp)), (by simp only [opV, *, ↓reduceIte]; try (first | decide | rfl | simp))⟩
          ·
           try simp only [BS] at U
           refine wR 1 [] 26 27 [] [(26, (.bool (s == ([62, 62] : List UInt8))))] trivial rfl fun _ => ?_
           refine wk_if 1 1 (v := (s == ([62, 62] : List UInt8))) rfl rfl rfl rfl (fun V => ?_) (fun V => ?_)
           ·
            try simp only [BS] at V
            refine wR 1 [] 2 4 [] [(2, (iI 14)), (3, (iI 5)), (4, (.bool false))] trivial rfl fun _ => ?_
            refine wk_ret ⟨.inr rfl, _, rfl, 14, 5, false, rfl, rfl, (by simp only [opV, *, ↓reduceIte]; try (first | decide | rfl | simp)), (by simp only [opV, *, ↓reduceIte]; try (first | decide | rfl | simp)), (by simp only [opV, *, ↓reduceIte]; try (first | decide | rfl | simp))⟩
           ·
            try simp only [BS] at V
            refine wR 1 [] 28 29 [] [(28, (.bool (s == ([62, 62, 62] : List UInt8))))] trivial rfl fun _ => ?_
            refine wk_if 1 3 (v := (s == ([62, 62, 62] : List UInt8))) rfl rfl rfl rfl (fun Y => ?_) (fun Y => ?_)
            ·
             try simp only [BS] at Y
             refine wR 1 [] 2 4 [] [(2, (iI 13)), (3, (iI 5)), (4, (.bool false))] trivial rfl fun _ => ?_
             refine wk_ret ⟨.inr rfl, _, rfl, 13, 5, false, rfl, rfl, (by simp only [opV, *, ↓reduceIte]; try (first | decide | rfl | simp)), (by simp only [opV, *, ↓reduceIte]; try (first | decide | rfl | simp)), (by simp only [opV, *, ↓reduceIte]; try (first | decide | rfl | simp))⟩
            ·
             try simp only [BS] at Y
             refine wR 1 [(1, .o (.tuple ⟨[(iI ((ariV s).1)), (iI ((ariV s).2.1)), (.bool ((ariV s).2.2))]⟩))] 30 34 [2, 3, 4] [(2, (iI ((ariV s).1))), (3, (iI ((ariV s).2.1))), (4, (.bool ((ariV s).2.2)))] (vA (arith_c_q ex s H) trivial) rfl fun _ => ?_
             refine wk_ret ⟨.inr rfl, _, rfl, (ariV s).1, (ariV s).2.1, (ariV s).2.2, rfl, rfl, (by simp only [opV, *, ↓reduceIte]; try (first | decide | rfl | simp)), (by simp only [opV, *, ↓reduceIte]; try (first | decide | rfl | simp)), (by simp only [opV, *, ↓reduceIte]; try (first | decide | rfl | simp))⟩
theorem oper_c_q (ex : FuncId) (s : List UInt8) (H : Heap) : C Try.prog 0 (KX ex) 88 [(.string ⟨⟨s⟩⟩)] H fun v H' => v = (.tuple ⟨[(iI ((opV s).1)), (iI ((opV s).2.1)), (.bool ((opV s).2.2))]⟩) ∧ H' = H :=
 cq (oper_c ex s H) (by rintro _ _ ⟨_, _, _, rfl, rfl, rfl, rfl, rfl⟩; exact ⟨rfl, rfl⟩)
end Go.Proofs.Ytgjpflldlegmjaa.p1
