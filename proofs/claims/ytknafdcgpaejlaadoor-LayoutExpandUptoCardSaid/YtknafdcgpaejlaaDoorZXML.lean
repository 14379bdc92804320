/-
 Plain laws: what the functions compute answers as the statement says. No condition beyond those that each statement names.
-/
import Derived.Test.YtknafdcgpaejlaaDoorZXMA
import Derived.Test.YtknafdcgpaejlaaDoorZXRD
noncomputable section
namespace Go.Proofs.YtknafdcgpaejlaaDoor.ml
open Go.R m1 m2 m3 m4 m5 m6 ma
set_option linter.unusedVariables false
set_option linter.unusedSimpArgs false
abbrev dO (c : VFnT) (b : Nat) : BlkT := c.blocks.getD b default
def tr : List VInT → (Nat → Prop) → Nat → Prop
 | [], S, r => S r
 | v :: l, S, r => (r : Int) ∈ aI v ∨ (tr l S r ∧ (r : Int) ∉ ak v)
theorem jC {S S' : Nat → Prop} (h : ∀ r, S r → S' r) : ∀ (l : List VInT) (r : Nat), tr l S r → tr l S' r
 | [], r, hr => h r hr
 | _ :: l, r, .inl hr => .inl hr
 | _ :: l, r, .inr hr => .inr ⟨jC h l r hr.1, hr.2⟩
def endS (b : BlkT) (S : Nat → Prop) (r : Nat) : Prop := S r ∨ (r : Int) ∈ endV b
theorem endS_mono {b : BlkT} {S S' : Nat → Prop} (h : ∀ r, S r → S' r) (r : Nat) (hr : endS b S r) : endS b S' r := hr.imp (h r) id
def inS (b : BlkT) (S : Nat → Prop) (r : Nat) : Prop := tr b.ins (endS b S) r
theorem gI {b : BlkT} {S S' : Nat → Prop} (h : ∀ r, S r → S' r) (r : Nat) (hr : inS b S r) : inS b S' r := jC (endS_mono h) _ r hr
def outS (c : VFnT) (I : Nat → Nat → Prop) (b : Nat) (r : Nat) : Prop := ∃ t ∈ bE (dO c b), I t.toNat r
theorem ie {c : VFnT} {I I' : Nat → Nat → Prop} (h : ∀ b r, I b r → I' b r) (b r : Nat) : outS c I b r → outS c I' b r := fun ⟨t, z, A⟩ => ⟨t, z, h _ _ A⟩
def Clo (c : VFnT) (I : Nat → Nat → Prop) : Prop := ∀ b, b < c.blocks.length → ∀ r, inS (dO c b) (outS c I b) r → I b r
def LIn (c : VFnT) (b r : Nat) : Prop := ∀ I, Clo c I → I b r
def LOut (c : VFnT) (b r : Nat) : Prop := outS c (LIn c) b r
theorem LIn_clo (c : VFnT) : Clo c (LIn c) := fun b hb r hr I hI => hI b hb r (gI (fun q hq => ie (fun b r h => h I hI) b q hq) r hr)
abbrev wds (c : VFnT) : Nat := (Int.tdiv (c.regs + 63) 64).toNat
def bI (I : List (List U64)) (b r : Nat) : Prop := bitOf (I.getD b default) r = true
structure Snd (c : VFnT) (I O : List (List U64)) : Prop where
 li : I.length = c.blocks.length
 lo : O.length = c.blocks.length
 wi : ∀ b, b < c.blocks.length → (I.getD b default).length = wds c
 wo : ∀ b, b < c.blocks.length → (O.getD b default).length = wds c
 si : ∀ b r, bI I b r → LIn c b r
 so : ∀ b r, bI O b r → LOut c b r
def Cl1 (c : VFnT) (I O : List (List U64)) (b : Nat) : Prop := (∀ t ∈ bE (dO c b), ∀ r, bI I t.toNat r → bI O b r) ∧ (∀ r, inS (dO c b) (bI O b) r → bI I b r)
structure AnF (c : VFnT) (I O : List (List U64)) : Prop where
 li : I.length = c.blocks.length
 lo : O.length = c.blocks.length
 wi : ∀ b, b < c.blocks.length → (I.getD b default).length = wds c
 wo : ∀ b, b < c.blocks.length → (O.getD b default).length = wds c
 hi : ∀ b r, bI I b r ↔ LIn c b r
 ho : ∀ b, b < c.blocks.length → ∀ r, bI O b r ↔ LOut c b r
def cntI (I : List (List U64)) : Nat := (I.map fun s => (lstV s).length).sum
theorem sum_set : ∀ (l : List Nat) (i x : Nat), i < l.length → (l.set i x).sum + l.getD i 0 = l.sum + x
 | [], i, x, h => by simp at h
 | y :: l, 0, x, _ => by simp; omega
 | y :: l, i + 1, x, h => by
  have := sum_set l i x (by simpa using h)
  simp only [List.set_cons_succ, List.sum_cons, List.getD_cons_succ]; omega
def mea (mo : Bool) (B n : Nat) : Nat := bif mo then 2 * (B - n) + 1 else 0
theorem mea_lt {m2 : Bool} {B n z : Nat} (h : m2 = true → n < z) (hB : z ≤ B) : mea m2 B z < mea true B n := by
 unfold mea
 cases m2 with
 | false => simp
 | true => have := h rfl; simp; omega
theorem at_set {α : Type} {d : α} {l : List α} {i j : Nat} {x : α} : (l.set i x).getD j d = if i = j ∧ j < l.length then x else l.getD j d := by
 simp only [List.getD_eq_getElem?_getD, List.getElem?_set]
 by_cases h : i = j
 ·
  subst h
  by_cases z : i < l.length
  ·
   rw [if_pos rfl, if_pos z, if_pos ⟨rfl, z⟩]; rfl
  rw [if_pos rfl, if_neg z, if_neg (fun e => z e.2), List.getElem?_eq_none (by omega)]
 rw [if_neg h, if_neg (fun e => h e.1)]
theorem tr_drop {l : List VInT} {i : Nat} (h : i < l.length) (S : Nat → Prop) (r : Nat) : tr (l.drop i) S r ↔ (r : Int) ∈ aI (l.getD i default) ∨ (tr (l.drop (i + 1)) S r ∧ (r : Int) ∉ ak (l.getD i default)) := by
 rw [List.drop_eq_getElem_cons h, List.getD_eq_getElem?_getD, List.getElem?_eq_getElem h]
 exact Iff.rfl
theorem cG {params regs : Int} {v : VInT} (h : fK params regs v = true) : (∀ x ∈ aI v, 0 ≤ x ∧ x < regs) ∧ (∀ x ∈ ak v, 0 ≤ x ∧ x < regs) ∧ v.args.length ≤ 6 := by
 unfold fK at h
 simp only [Bool.and_eq_true, decide_eq_true_eq] at h
 obtain ⟨⟨⟨⟨⟨⟨⟨hal, E⟩, hl⟩, hargs⟩, ha⟩, hb⟩, hc⟩, _⟩ := h
 have A : v.i.op = 38 ∨ (1 ≤ v.i.op ∧ v.i.op ≤ 37 ∧ v.i.op ≠ 38) := by
  unfold alV at hal
  have := of_decide_eq_true hal; omega
 have hT : ∀ {p : Bool} {n : Int}, di p n regs = true → p = true → 0 ≤ n ∧ n < regs := by
  intro p n hp hq
  subst hq
  unfold di at hp
  exact bK.1 (by simpa using hp)
 have tabA : ∀ k : Fin 37, ((aD ((k.val : Int) + 1)).ra = true ∨ (aD ((k.val : Int) + 1)).wa = true ∨ ((k.val : Int) + 1) = 6 → aM ((k.val : Int) + 1) ≠ 1) ∧ ((aD ((k.val : Int) + 1)).rb = true → aM ((k.val : Int) + 1) = 3 ∨ aM ((k.val : Int) + 1) = 4 ∨ aM ((k.val : Int) + 1) = 7) ∧ ((((k.val : Int) + 1) = 11 ∨ ((k.val : Int) + 1) = 12) → aM ((k.val : Int) + 1) = 4) := by decide +kernel
 have hA : (aD v.i.op).ra = true ∨ (aD v.i.op).wa = true ∨ v.i.op = 6 ∨ v.i.op = 38 → 0 ≤ v.i.a ∧ v.i.a < regs := by
  intro hq
  refine hT ha (decide_eq_true ?_)
  rcases A with e | e
  ·
   rw [e]; decide
  obtain ⟨k, hk⟩ := ex37 (op := v.i.op) ⟨e.1, e.2.1⟩
  rw [hk] at hq ⊢
  refine (tabA k).1 ?_
  rcases hq with z | z | z | z
  ·
   exact .inl z
  ·
   exact .inr (.inl z)
  ·
   exact .inr (.inr z)
  omega
 have hB : (aD v.i.op).rb = true → 0 ≤ v.i.b ∧ v.i.b < regs := by
  intro hq
  refine hT hb (decide_eq_true ?_)
  rcases A with e | e
  ·
   rw [e] at hq; exact absurd hq (by decide)
  obtain ⟨k, hk⟩ := ex37 (op := v.i.op) ⟨e.1, e.2.1⟩
  rw [hk] at hq ⊢
  exact (tabA k).2.1 hq
 have hC : v.i.op = 11 ∨ v.i.op = 12 → 0 ≤ v.i.c ∧ v.i.c < regs := by
  intro hq
  refine hT hc (decide_eq_true ?_)
  rcases hq with e | e <;> rw [e] <;> decide
 refine ⟨fun x hx => ?_, fun x hx => ?_, hl⟩
 ·
  unfold aI at hx
  rw [if_pos hal, jB] at hx
  rcases hx with hx | hx
  ·
   cases hx
  unfold dS at hx
  simp only [List.mem_append] at hx
  rcases hx with hx | hx | hx | hx
  ·
   split at hx
   ·
    rename_i hq; rw [List.mem_singleton] at hx; rw [hx]; exact hA (.inl hq)
   cases hx
  ·
   split at hx
   ·
    rename_i hq; rw [List.mem_singleton] at hx; rw [hx]; exact hB hq
   cases hx
  ·
   split at hx
   ·
    rename_i hq; rw [List.mem_singleton] at hx; rw [hx]; exact hC hq
   cases hx
  split at hx
  ·
   exact bK.1 (List.all_eq_true.1 hargs x hx)
  cases hx
 unfold ak at hx
 split at hx
 ·
  rename_i hq
  rw [List.mem_singleton] at hx; rw [hx]
  refine hA ?_
  rcases hq.2 with z | z | z
  ·
   exact .inr (.inl z)
  ·
   exact .inr (.inr (.inl z))
  exact .inr (.inr (.inr z))
 cases hx
structure VF (c : VFnT) : Prop where
 regs : 0 ≤ c.regs ∧ c.regs ≤ 3000
 params : 0 ≤ c.params ∧ c.params ≤ 6
 nb : 1 ≤ c.blocks.length ∧ c.blocks.length ≤ 1000
 succ : ∀ b, b < c.blocks.length → ∀ t ∈ bE (dO c b), 0 ≤ t ∧ t < (c.blocks.length : Int)
 fin : ∀ b, b < c.blocks.length → ((dO c b).fin = 2 ∨ (dO c b).fin = 3) → 0 ≤ (dO c b).reg ∧ (dO c b).reg < c.regs
 ins : ∀ b, b < c.blocks.length → ∀ i, i < (dO c b).ins.length → fK c.params c.regs ((dO c b).ins.getD i default) = true
theorem vF_of {c : VFnT} (h : dQ c = true) : VF c := by
 unfold dQ at h
 rw [Bool.and_eq_true] at h
 obtain ⟨z, A⟩ := h
 have z := of_decide_eq_true z
 have hB : ∀ b, b < c.blocks.length → blkV c.params c.regs (c.blocks.length : Int) (dO c b) = true := fun b hb => all_at A hb
 refine ⟨by omega, by omega, by omega, fun b hb t ht => ?_, fun b hb hf => ?_, fun b hb i hi => ?_⟩
 ·
  have := hB b hb
  unfold blkV at this
  rw [Bool.and_eq_true] at this
  have hv := dP.1 this.2
  unfold bE at ht
  split at ht
  ·
   rw [List.mem_singleton] at ht; subst ht; omega
  split at ht
  ·
   rw [ins_mem, List.mem_singleton] at ht
   rcases ht with rfl | rfl <;> omega
  cases ht
 ·
  have := hB b hb
  unfold blkV at this
  rw [Bool.and_eq_true] at this
  have hv := dP.1 this.2
  omega
 have := hB b hb
 unfold blkV at this
 rw [Bool.and_eq_true] at this
 exact all_at this.1 hi
end Go.Proofs.YtknafdcgpaejlaaDoor.ml
