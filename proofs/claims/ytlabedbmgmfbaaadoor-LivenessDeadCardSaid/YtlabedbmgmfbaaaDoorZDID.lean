/-
 Plain laws: what the functions compute answers as the statement says. No condition beyond those that each statement names.
-/
import Derived.Test.YtlabedbmgmfbaaaDoorZDIB
noncomputable section
namespace Go.Proofs.YtlabedbmgmfbaaaDoor.id_
open Go.R m1 m2 m7 iw ia ib
set_option linter.unusedVariables false
def itV (P : List VFnT) : Nat → RunS → RunS
 | 0, s => s
 | n + 1, s => if (itV P n s).over then itV P n s else dW P (itV P n s)
def iniV (P : List VFnT) (lens : List Int) (f : Int) (args : List Int) (fuel : Int) : RunS := ⟨[], ⟨P.getD f.toNat default, [], args, 0, 0, 0⟩, lens.map (fun n => List.replicate n.toNat 0), fuel, false, 0, 0, [], 0⟩
def okR (P : List VFnT) (lens : List Int) (f : Int) (args : List Int) (fuel : Int) : Prop := vpV P lens = true ∧ 0 ≤ f ∧ f < (P.length : Int) ∧ (args.length : Int) = (P.getD f.toNat default).params ∧ 0 ≤ fuel ∧ fuel ≤ 1000
open Classical in
def runV (P : List VFnT) (lens : List Int) (f : Int) (args : List Int) (fuel most : Int) : Option RunS :=
 if okR P lens f args fuel ∧ (itV P most.toNat (iniV P lens f args fuel)).over = true then some (itV P most.toNat (iniV P lens f args fuel)) else none
section
variable {P : List VFnT} {lens : List Int} {f : Int} {args : List Int} {fuel most : Int}
theorem ll {s : RunS} {k : Nat} (h : (itV P k s).over = true) : ∀ m, itV P (k + m) s = itV P k s
 | 0 => rfl
 | m + 1 => by
  show (if (itV P (k + m) s).over then itV P (k + m) s else dW P (itV P (k + m) s)) = _
  rw [ll h m, if_pos h]
theorem run_no (h : ¬ okR P lens f args fuel) : none = runV P lens f args fuel most := by
 unfold runV; rw [if_neg fun hh => h hh.1]
theorem run_late {t : RunS} (ht : t = itV P most.toNat (iniV P lens f args fuel)) (ho : t.over = false) : none = runV P lens f args fuel most := by
 unfold runV; rw [if_neg fun hh => by rw [← ht, ho] at hh; cases hh.2]
theorem run_yes {t : RunS} (h : okR P lens f args fuel) (ht : t = itV P most.toNat (iniV P lens f args fuel)) (ho : t.over = true) : some t = runV P lens f args fuel most := by
 unfold runV; rw [if_pos ⟨h, by rw [← ht]; exact ho⟩, ht]
theorem len_at (h : vpV P lens = true) {j : Nat} (hj : j < lens.length) : 1 ≤ lens.getD j 0 ∧ lens.getD j 0 ≤ 16 := by
 unfold vpV at h
 rw [Bool.and_eq_true, Bool.and_eq_true] at h
 exact of_decide_eq_true (eK h.1.2 hj)
theorem len_rep (h : vpV P lens = true) : ∀ r ∈ lens.map (fun n => List.replicate n.toNat (0 : Int)), r.length ≤ 16 := fun r hr => by
 obtain ⟨n, hn, rfl⟩ := List.mem_map.1 hr
 unfold vpV at h
 rw [Bool.and_eq_true, Bool.and_eq_true] at h
 have := of_decide_eq_true (show decide (1 ≤ n ∧ n ≤ 16) = true from List.all_eq_true.1 h.1.2 n hn)
 rw [List.length_replicate]; omega
theorem ini_ok (h : okR P lens f args fuel) : RunOK P lens.length (iniV P lens f args fuel) 0 := by
 obtain ⟨z, O, T, A, I, J⟩ := h
 have hp := jD z
 have hm : P.getD f.toNat default ∈ P := by rw [List.getD_eq_getElem?_getD, List.getElem?_eq_getElem (by omega)]; exact List.getElem_mem _
 have hl := hp.lim _ hm
 exact ⟨⟨hm, ⟨Int.le_refl 0, by show (0 : Int) < ((P.getD f.toNat default).blocks.length : Int); omega⟩, ⟨Int.le_refl 0, Int.natCast_nonneg _⟩, Nat.zero_le _, A, Int.le_refl 0, (by decide : (0 : Int) < 3000)⟩, fun c hc => (by cases hc), (by show (List.map _ _).length = _; rw [List.length_map]), len_rep z, ⟨I, J⟩, Nat.le_refl 0, (⟨by decide, by decide⟩ : in64 0), (⟨by decide, by decide⟩ : in64 0)⟩
theorem it_ok (h : okR P lens f args fuel) : ∀ k, RunOK P lens.length (itV P k (iniV P lens f args fuel)) k
 | 0 => ini_ok h
 | k + 1 => by
  show RunOK P lens.length (if _ then _ else _) (k + 1)
  split
  ·
   exact (it_ok h k).up
  ·
   exact (it_ok h k).step (jD h.1)
theorem rows_step {lens : List Int} {cl : List (List Int)} {j : Nat} (h : cl = (lens.take j).map (fun n => List.replicate n.toNat 0)) (hj : j < lens.length) : cl ++ [List.replicate (lens.getD j 0).toNat (0 : Int)] = (lens.take (j + 1)).map (fun n => List.replicate n.toNat 0) := by
 rw [h, List.take_add_one, List.map_append, List.getD_eq_getElem?_getD, List.getElem?_eq_getElem hj]; rfl
theorem rows_end {lens : List Int} {cl : List (List Int)} {j : Nat} (h : cl = (lens.take j).map (fun n => List.replicate n.toNat (0 : Int))) (hj : lens.length ≤ j) : cl = lens.map (fun n => List.replicate n.toNat 0) := by rw [h, List.take_of_length_le hj]
end
end Go.Proofs.YtlabedbmgmfbaaaDoor.id_
