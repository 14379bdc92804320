/-
  Ascending lists of live registers: unions, differences, bounds, plain laws. No condition beyond those that each statement names.
-/
import Derived.Test.YtlabedbmgmfbaaaDoorMD
noncomputable section
namespace Go.Proofs.YtlabedbmgmfbaaaDoor.mf
open Go.R
set_option maxRecDepth 10000
set_option linter.unusedVariables false
theorem ql {H : Heap} {b o : Nat} {cs : List Value} {w : Value} (t : TypeId) (i : Nat) (hc : HC H.get b o cs) (ha : aggOf Tryd.prog t = some false) (hv : cs[i]? = some w) : LDv Tryd.prog H t (.pointer (some ⟨b, o + i, none⟩)) w := ld1 hc ha hv
theorem qn {H : Heap} {b o : Nat} {cs l : List Value} (t : TypeId) (i n : Nat) (hc : HC H.get b o cs) (ha : aggOf Tryd.prog t = some true) (hs : szOf Tryd.prog t = some n) (hn : Nat.ble (i + n) cs.length = true) (hl : takeL (dropL cs i) n = l) : LDv Tryd.prog H t (.pointer (some ⟨b, o + i, none⟩)) (.agg ⟨l⟩) := ldN hc ha hs hn hl
open m1 m2 m3 m4 m5 m6 ma ml mb mc md
theorem lin_lt {c : VFnT} (v : VF c) {b r : Nat} (h : LIn c b r) : (r : Int) < c.regs := by
  refine h (fun _ r => (r : Int) < c.regs) fun b hb r hr => ?_
  have key : ∀ (l : List VInT), (∀ w ∈ l, vinV c.params c.regs w = true) → ∀ r, tr l (endS (blkN c b) (outS c (fun _ r => (r : Int) < c.regs) b)) r → (r : Int) < c.regs := by
    intro l
    induction l with
    | nil =>
      intro _ r hr
      rcases hr with ⟨t, _, h2⟩ | h2
      · exact h2
      · unfold endV at h2
        split at h2
        · rename_i hf; rw [List.mem_singleton] at h2; have := v.fin b hb hf; omega
        · cases h2
    | cons w l ih =>
      intro hw r hr
      rcases hr with hr | hr
      · exact ((reads_lim (hw w (List.mem_cons_self ..))).1 _ hr).2
      · exact ih (fun x hx => hw x (List.mem_cons_of_mem _ hx)) r hr.1
  refine key _ (fun w hw => ?_) r hr
  obtain ⟨i, hi, rfl⟩ := List.mem_iff_getElem.1 hw
  have := v.ins b hb i hi
  rwa [List.getD_eq_getElem?_getD, List.getElem?_eq_getElem hi] at this
theorem lout_lt {c : VFnT} (v : VF c) {b r : Nat} (h : LOut c b r) : (r : Int) < c.regs := by
  obtain ⟨t, _, h2⟩ := h
  exact lin_lt v h2
theorem tr_lt {c : VFnT} (v : VF c) {b : Nat} (hb : b < c.blocks.length) : ∀ (l : List VInT), (∀ w ∈ l, w ∈ (blkN c b).ins) → ∀ r, tr l (endS (blkN c b) (LOut c b)) r → (r : Int) < c.regs := by
  intro l
  induction l with
  | nil =>
    intro _ r hr
    rcases hr with h2 | h2
    · exact lout_lt v h2
    · unfold endV at h2
      split at h2
      · rename_i hf; rw [List.mem_singleton] at h2; have := v.fin b hb hf; omega
      · cases h2
  | cons w l ih =>
    intro hw r hr
    rcases hr with hr | hr
    · obtain ⟨i, hi, he⟩ := List.mem_iff_getElem.1 (hw w (List.mem_cons_self ..))
      have := v.ins b hb i hi
      rw [List.getD_eq_getElem?_getD, List.getElem?_eq_getElem hi, Option.getD_some, he] at this
      exact ((reads_lim this).1 _ hr).2
    · exact ih (fun x hx => hw x (List.mem_cons_of_mem _ hx)) r hr.1
theorem pt_lt {c : VFnT} (v : VF c) {b i r : Nat} (hb : b < c.blocks.length) (h : ptS c b i r) : (r : Int) < c.regs := tr_lt v hb _ (fun w hw => List.mem_of_mem_drop hw) r h
theorem asc_len {m : Int} : ∀ {l : List Int} (lo : Int), lo ≤ m → Asc l → (∀ x ∈ l, lo ≤ x ∧ x < m) → (l.length : Int) ≤ m - lo
  | [], lo, h, _, _ => by simp; omega
  | x :: l, lo, _, ha, hb => by
    have h1 := List.pairwise_cons.1 ha
    have h2 := hb x (List.mem_cons_self ..)
    have := asc_len (l := l) (x + 1) (by omega) h1.2 fun y hy => ⟨by have := h1.1 y hy; omega, (hb y (List.mem_cons_of_mem _ hy)).2⟩
    rw [List.length_cons]; omega
theorem Lst.len {l : List Int} {S : Nat → Prop} {m : Int} (h : Lst l S) (hm : 0 ≤ m) (hb : ∀ r, S r → (r : Int) < m) : (l.length : Int) ≤ m := by
  have := asc_len 0 hm h.asc fun x hx => by
    obtain ⟨h1, h2⟩ := (h.mem x).1 hx
    have := hb _ h2
    exact ⟨h1, by omega⟩
  omega
theorem Lst.nil {S : Nat → Prop} (h : ∀ r, ¬ S r) : Lst [] S := ⟨List.Pairwise.nil, fun x => ⟨fun hx => (by cases hx), fun hx => absurd hx.2 (h _)⟩⟩
theorem Lst.addL {a l : List Int} {S : Nat → Prop} (h : Lst a S) (hl : ∀ x ∈ l, 0 ≤ x) : Lst (uniV a l) (fun r => S r ∨ (r : Int) ∈ l) := ⟨uni_asc h.asc, fun x => by
  rw [uni_mem, h.mem]
  constructor
  · rintro (h1 | h1)
    · exact ⟨h1.1, .inl h1.2⟩
    · have := hl x h1
      exact ⟨this, .inr (by rw [show ((x.toNat : Nat) : Int) = x by omega]; exact h1)⟩
  · rintro ⟨h1, h2 | h2⟩
    · exact .inl ⟨h1, h2⟩
    · exact .inr (by rwa [show ((x.toNat : Nat) : Int) = x by omega] at h2)⟩
theorem Lst.union {a l : List Int} {S S' : Nat → Prop} (h : Lst a S) (k : Lst l S') : Lst (uniV a l) (fun r => S r ∨ S' r) := by
  have h1 := Lst.addL (l := l) h fun x hx => ((k.mem x).1 hx).1
  refine ⟨h1.asc, fun x => ?_⟩
  rw [h1.mem]
  constructor
  · rintro ⟨h2, h3 | h3⟩
    · exact ⟨h2, .inl h3⟩
    · exact ⟨h2, .inr (((k.mem _).1 h3).2)⟩
  · rintro ⟨h2, h3 | h3⟩
    · exact ⟨h2, .inl h3⟩
    · exact ⟨h2, .inr ((k.mem _).2 ⟨by omega, h3⟩)⟩
theorem con_iff {l : List Int} {n : Int} : conV l n = true ↔ n ∈ l := by
  unfold conV
  rw [List.any_eq_true]
  constructor
  · rintro ⟨x, h1, h2⟩; have := of_decide_eq_true h2; subst this; exact h1
  · exact fun h => ⟨n, h, decide_eq_true rfl⟩
theorem Lst.minus {a w : List Int} {S : Nat → Prop} (h : Lst a S) : Lst (minV a w) (fun r => S r ∧ (r : Int) ∉ w) := ⟨h.asc.sublist List.filter_sublist, fun x => by
  unfold minV
  rw [List.mem_filter, h.mem]
  simp only [Bool.not_eq_true', Bool.eq_false_iff, ne_eq, con_iff]
  constructor
  · rintro ⟨⟨h1, h2⟩, h3⟩; exact ⟨h1, h2, by rw [show ((x.toNat : Nat) : Int) = x by omega]; exact h3⟩
  · rintro ⟨h1, h2, h3⟩; exact ⟨⟨h1, h2⟩, by rwa [show ((x.toNat : Nat) : Int) = x by omega] at h3⟩⟩
theorem Lst.same {a b : List Int} {S S' : Nat → Prop} (h : Lst a S) (k : Lst b S') (hs : ∀ r, S r ↔ S' r) : (!(decide (a = b))) = false := by rw [decide_eq_true (h.uniq k hs)]; rfl
def enS (c : VFnT) (b q : Nat) (r : Nat) : Prop := ∃ t ∈ (succV (blkN c b)).take q, LIn c t.toNat r
theorem en_zero {c : VFnT} {b : Nat} : Lst [] (enS c b 0) := Lst.nil fun r ⟨t, h, _⟩ => by simp at h
theorem en_step {c : VFnT} {b q : Nat} {e x : List Int} (hq : q < (succV (blkN c b)).length) (h : Lst e (enS c b q)) (hx : Lst x (LIn c ((succV (blkN c b)).getD q 0).toNat)) : Lst (uniV e x) (enS c b (q + 1)) := by
  have h1 := Lst.union h hx
  refine ⟨h1.asc, fun y => ?_⟩
  rw [h1.mem]
  unfold enS
  rw [take_snoc hq (d := 0)]
  constructor
  · rintro ⟨h2, ⟨t, h3, h4⟩ | h3⟩
    · exact ⟨h2, t, List.mem_append.2 (.inl h3), h4⟩
    · exact ⟨h2, _, List.mem_append.2 (.inr (List.mem_singleton.2 rfl)), h3⟩
  · rintro ⟨h2, t, h3, h4⟩
    rcases List.mem_append.1 h3 with h3 | h3
    · exact ⟨h2, .inl ⟨t, h3, h4⟩⟩
    · rw [List.mem_singleton] at h3; subst h3; exact ⟨h2, .inr h4⟩
theorem en_lt {c : VFnT} (v : VF c) {b q r : Nat} (h : enS c b q r) : (r : Int) < c.regs := by
  obtain ⟨t, _, h2⟩ := h
  exact lin_lt v h2
theorem en_all {c : VFnT} {b q : Nat} (hq : (succV (blkN c b)).length ≤ q) (r : Nat) : enS c b q r ↔ LOut c b r := by
  unfold enS LOut outS
  rw [List.take_of_length_le hq]
theorem end_reg {c : VFnT} (v : VF c) {b : Nat} (hb : b < c.blocks.length) : ∀ x ∈ endV (blkN c b), 0 ≤ x := fun x hx => by
  unfold endV at hx
  split at hx
  · rename_i hf; rw [List.mem_singleton] at hx; have := v.fin b hb hf; omega
  · cases hx
theorem end_lst {c : VFnT} (v : VF c) {b q : Nat} {e ef : List Int} (hb : b < c.blocks.length) (h : Lst e (enS c b q)) (hq : (succV (blkN c b)).length ≤ q) (hf : ef = uniV e (endV (blkN c b))) : Lst ef (ptS c b (blkN c b).ins.length) := by
  have h1 := Lst.addL h (end_reg v hb)
  rw [hf]
  refine ⟨h1.asc, fun x => ?_⟩
  rw [h1.mem]
  unfold ptS
  rw [List.drop_length]
  show _ ↔ 0 ≤ x ∧ endS _ _ _
  unfold endS
  rw [en_all hq]
theorem end_yes {b : BlkT} {e : List Int} (h : b.fin = 2 ∨ b.fin = 3) : uniV e [b.reg] = uniV e (endV b) := by unfold endV; rw [if_pos h]
theorem end_no {b : BlkT} {e : List Int} (h : ¬ (b.fin = 2 ∨ b.fin = 3)) : e = uniV e (endV b) := by unfold endV; rw [if_neg h]; rfl
theorem pt_step {c : VFnT} (v : VF c) {b i : Nat} {l : List Int} (hb : b < c.blocks.length) (hi : i < (blkN c b).ins.length) (h : Lst l (ptS c b (i + 1))) : Lst (uniV (minV l (writesV ((blkN c b).ins.getD i default))) (readsV ((blkN c b).ins.getD i default))) (ptS c b i) := by
  have hv := reads_lim (v.ins b hb i hi)
  have h1 := Lst.addL (l := readsV ((blkN c b).ins.getD i default)) (Lst.minus (w := writesV ((blkN c b).ins.getD i default)) h) fun x hx => (hv.1 x hx).1
  refine ⟨h1.asc, fun x => ?_⟩
  rw [h1.mem]
  unfold ptS
  rw [tr_drop hi]
  constructor
  · rintro ⟨h2, h3 | h3⟩
    · exact ⟨h2, .inr h3⟩
    · exact ⟨h2, .inl h3⟩
  · rintro ⟨h2, h3 | h3⟩
    · exact ⟨h2, .inr h3⟩
    · exact ⟨h2, .inl h3⟩
theorem pt_in {c : VFnT} {b : Nat} (hb : b < c.blocks.length) (r : Nat) : ptS c b 0 r ↔ LIn c b r := by
  rw [LIn_iff hb]; exact Iff.rfl
end Go.Proofs.YtlabedbmgmfbaaaDoor.mf
