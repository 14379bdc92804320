/-
  Ascending lists of live registers: unions, differences, bounds, plain laws. No condition beyond those that each statement names.
-/
import Derived.Test.YtlabedbmgmfbaaaDoorMD
noncomputable section
namespace Go.Proofs.YtlabedbmgmfbaaaDoor.mf
open Go.R
set_option maxRecDepth 10000
set_option linter.unusedVariables false
theorem ql {H : Heap} {b o : Nat} {cs : List Value} {w : Value} (t : TypeId) (i : Nat) (hc : HC H.get b o cs) (ha : aggOf Tryd.prog t = some false) (hv : cs[i]? = some w) : LDv Tryd.prog H t (.pointer (some ⟨b, o + i, none⟩)) w := ld1 hc ha hv
theorem qn {H : Heap} {b o : Nat} {cs l : List Value} (t : TypeId) (i n : Nat) (hc : HC H.get b o cs) (ha : aggOf Tryd.prog t = some true) (hs : szOf Tryd.prog t = some n) (hn : Nat.ble (i + n) cs.length = true) (hl : takeL (dropL cs i) n = l) : LDv Tryd.prog H t (.pointer (some ⟨b, o + i, none⟩)) (.agg ⟨l⟩) := ldN hc ha hs hn hl
open m1 m2 m3 m4 m5 m6 ma ml mb mc md
theorem lin_lt {c : VFnT} (v : VF c) {b r : Nat} (h : LIn c b r) : (r : Int) < c.regs := by
  refine h (fun _ r => (r : Int) < c.regs) fun b hb r hr => ?_
  have key : ∀ (l : List VInT), (∀ w ∈ l, vinV c.params c.regs w = true) → ∀ r, tr l (endS (blkN c b) (outS c (fun _ r => (r : Int) < c.regs) b)) r → (r : Int) < c.regs := by
    intro l
    induction l with
    | nil =>
      intro _ r hr
      rcases hr with ⟨t, _, h2⟩ | h2
      · exact h2
      · unfold endV at h2
        split at h2
        · rename_i hf; rw [List.mem_singleton] at h2; have := v.fin b hb hf; omega
        · cases h2
    | cons w l ih =>
      intro hw r hr
      rcases hr with hr | hr
      · exact ((reads_lim (hw w (List.mem_cons_self ..))).1 _ hr).2
      · exact ih (fun x hx => hw x (List.mem_cons_of_mem _ hx)) r hr.1
  refine key _ (fun w hw => ?_) r hr
  obtain ⟨i, hi, rfl⟩ := List.mem_iff_getElem.1 hw
  have := v.ins b hb i hi
  rwa [List.getD_eq_getElem?_getD, List.getElem?_eq_getElem hi] at this
theorem lout_lt {c : VFnT} (v : VF c) {b r : Nat} (h : LOut c b r) : (r : Int) < c.regs := by
  obtain ⟨t, _, h2⟩ := h
  exact lin_lt v h2
theorem asc_len {m : Int} : ∀ {l : List Int} (lo : Int), lo ≤ m → Asc l → (∀ x ∈ l, lo ≤ x ∧ x < m) → (l.length : Int) ≤ m - lo
  | [], lo, h, _, _ => by simp; omega
  | x :: l, lo, _, ha, hb => by
    have h1 := List.pairwise_cons.1 ha
    have h2 := hb x (List.mem_cons_self ..)
    have := asc_len (l := l) (x + 1) (by omega) h1.2 fun y hy => ⟨by have := h1.1 y hy; omega, (hb y (List.mem_cons_of_mem _ hy)).2⟩
    rw [List.length_cons]; omega
theorem Lst.len {l : List Int} {S : Nat → Prop} {m : Int} (h : Lst l S) (hm : 0 ≤ m) (hb : ∀ r, S r → (r : Int) < m) : (l.length : Int) ≤ m := by
  have := asc_len 0 hm h.asc fun x hx => by
    obtain ⟨h1, h2⟩ := (h.mem x).1 hx
    have := hb _ h2
    exact ⟨h1, by omega⟩
  omega
theorem con_iff {l : List Int} {n : Int} : conV l n = true ↔ n ∈ l := by
  unfold conV
  rw [List.any_eq_true]
  constructor
  · rintro ⟨x, h1, h2⟩; have := of_decide_eq_true h2; subst this; exact h1
  · exact fun h => ⟨n, h, decide_eq_true rfl⟩
def enS (c : VFnT) (b q : Nat) (r : Nat) : Prop := ∃ t ∈ (succV (blkN c b)).take q, LIn c t.toNat r
end Go.Proofs.YtlabedbmgmfbaaaDoor.mf
