/-
 The law of precedence: all runs together. No condition.
-/
import Derived.Test.YtgjpflldlegmjaaZPQ0
import Derived.Test.YtgjpflldlegmjaaZPQ1
import Derived.Test.YtgjpflldlegmjaaZPQ2
import Derived.Test.YtgjpflldlegmjaaZPQ3
import Derived.Test.YtgjpflldlegmjaaZPQ4
import Derived.Test.YtgjpflldlegmjaaZPQ5
import Derived.Test.YtgjpflldlegmjaaZPQ6
import Derived.Test.YtgjpflldlegmjaaZPQ7
noncomputable section
namespace Go.Proofs.Ytgjpflldlegmjaa.pp
open Go.R pk
theorem lt8 {n : Nat} (h : n < 8) : n = 0 ∨ n = 1 ∨ n = 2 ∨ n = 3 ∨ n = 4 ∨ n = 5 ∨ n = 6 ∨ n = 7 := by omega
theorem r0 (a b : Int) {q : Nat} (hq : q < 8) : ok a b (0 : Nat) q = true := by
 rcases lt8 hq with rfl | rfl | rfl | rfl | rfl | rfl | rfl | rfl
 ·
  exact q0.c0 a b
 ·
  exact q0.c1 a b
 ·
  exact q0.c2 a b
 ·
  exact q0.c3 a b
 ·
  exact q0.c4 a b
 ·
  exact q0.c5 a b
 ·
  exact q0.c6 a b
 ·
  exact q0.c7 a b
theorem r1 (a b : Int) {q : Nat} (hq : q < 8) : ok a b (1 : Nat) q = true := by
 rcases lt8 hq with rfl | rfl | rfl | rfl | rfl | rfl | rfl | rfl
 ·
  exact q1.c0 a b
 ·
  exact q1.c1 a b
 ·
  exact q1.c2 a b
 ·
  exact q1.c3 a b
 ·
  exact q1.c4 a b
 ·
  exact q1.c5 a b
 ·
  exact q1.c6 a b
 ·
  exact q1.c7 a b
theorem r2 (a b : Int) {q : Nat} (hq : q < 8) : ok a b (2 : Nat) q = true := by
 rcases lt8 hq with rfl | rfl | rfl | rfl | rfl | rfl | rfl | rfl
 ·
  exact q2.c0 a b
 ·
  exact q2.c1 a b
 ·
  exact q2.c2 a b
 ·
  exact q2.c3 a b
 ·
  exact q2.c4 a b
 ·
  exact q2.c5 a b
 ·
  exact q2.c6 a b
 ·
  exact q2.c7 a b
theorem r3 (a b : Int) {q : Nat} (hq : q < 8) : ok a b (3 : Nat) q = true := by
 rcases lt8 hq with rfl | rfl | rfl | rfl | rfl | rfl | rfl | rfl
 ·
  exact q3.c0 a b
 ·
  exact q3.c1 a b
 ·
  exact q3.c2 a b
 ·
  exact q3.c3 a b
 ·
  exact q3.c4 a b
 ·
  exact q3.c5 a b
 ·
  exact q3.c6 a b
 ·
  exact q3.c7 a b
theorem r4 (a b : Int) {q : Nat} (hq : q < 8) : ok a b (4 : Nat) q = true := by
 rcases lt8 hq with rfl | rfl | rfl | rfl | rfl | rfl | rfl | rfl
 ·
  exact q4.c0 a b
 ·
  exact q4.c1 a b
 ·
  exact q4.c2 a b
 ·
  exact q4.c3 a b
 ·
  exact q4.c4 a b
 ·
  exact q4.c5 a b
 ·
  exact q4.c6 a b
 ·
  exact q4.c7 a b
theorem r5 (a b : Int) {q : Nat} (hq : q < 8) : ok a b (5 : Nat) q = true := by
 rcases lt8 hq with rfl | rfl | rfl | rfl | rfl | rfl | rfl | rfl
 ·
  exact q5.c0 a b
 ·
  exact q5.c1 a b
 ·
  exact q5.c2 a b
 ·
  exact q5.c3 a b
 ·
  exact q5.c4 a b
 ·
  exact q5.c5 a b
 ·
  exact q5.c6 a b
 ·
  exact q5.c7 a b
theorem r6 (a b : Int) {q : Nat} (hq : q < 8) : ok a b (6 : Nat) q = true := by
 rcases lt8 hq with rfl | rfl | rfl | rfl | rfl | rfl | rfl | rfl
 ·
  exact q6.c0 a b
 ·
  exact q6.c1 a b
 ·
  exact q6.c2 a b
 ·
  exact q6.c3 a b
 ·
  exact q6.c4 a b
 ·
  exact q6.c5 a b
 ·
  exact q6.c6 a b
 ·
  exact q6.c7 a b
theorem r7 (a b : Int) {q : Nat} (hq : q < 8) : ok a b (7 : Nat) q = true := by
 rcases lt8 hq with rfl | rfl | rfl | rfl | rfl | rfl | rfl | rfl
 ·
  exact q7.c0 a b
 ·
  exact q7.c1 a b
 ·
  exact q7.c2 a b
 ·
  exact q7.c3 a b
 ·
  exact q7.c4 a b
 ·
  exact q7.c5 a b
 ·
  exact q7.c6 a b
 ·
  exact q7.c7 a b
theorem all (a b : Int) (p q : Nat) (hp : p < 8) (hq : q < 8) : ok a b p q = true := by
 rcases lt8 hp with rfl | rfl | rfl | rfl | rfl | rfl | rfl | rfl
 ·
  exact r0 a b hq
 ·
  exact r1 a b hq
 ·
  exact r2 a b hq
 ·
  exact r3 a b hq
 ·
  exact r4 a b hq
 ·
  exact r5 a b hq
 ·
  exact r6 a b hq
 ·
  exact r7 a b hq
theorem prec_c (a b : Int) (ha : in64 a) (hb : in64 b) : C Try.prog 0 KL 5 [.int .i64 a, .int .i64 b] Heap.empty fun v _ => v = .bool true := prec_of all a b ha hb
end Go.Proofs.Ytgjpflldlegmjaa.pp
