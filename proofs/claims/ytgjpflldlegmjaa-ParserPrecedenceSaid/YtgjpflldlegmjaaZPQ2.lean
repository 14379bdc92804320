/-
 The law of precedence: the runs whose first sign is number 2, each by evaluation. No condition.
-/
import Derived.Test.YtgjpflldlegmjaaZPPK
noncomputable section
namespace Go.Proofs.Ytgjpflldlegmjaa.q2
open Go.R pk
theorem c0 (a b : Int) : ok a b (2 : Nat) (0 : Nat) = true := by kernel_rfl
theorem c1 (a b : Int) : ok a b (2 : Nat) (1 : Nat) = true := by kernel_rfl
theorem c2 (a b : Int) : ok a b (2 : Nat) (2 : Nat) = true := by kernel_rfl
theorem c3 (a b : Int) : ok a b (2 : Nat) (3 : Nat) = true := by kernel_rfl
theorem c4 (a b : Int) : ok a b (2 : Nat) (4 : Nat) = true := by kernel_rfl
theorem c5 (a b : Int) : ok a b (2 : Nat) (5 : Nat) = true := by kernel_rfl
theorem c6 (a b : Int) : ok a b (2 : Nat) (6 : Nat) = true := by kernel_rfl
theorem c7 (a b : Int) : ok a b (2 : Nat) (7 : Nat) = true := by kernel_rfl
end Go.Proofs.Ytgjpflldlegmjaa.q2
