/-
 Live registers: the reference solution of the equations, by a symbolic run. No condition but bounds on lengths.
-/
import Derived.Test.YtknafdcgpaejlaaDoorZXMH
import Derived.Test.YtknafdcgpaejlaaDoorZXRC
noncomputable section
namespace Go.Proofs.YtknafdcgpaejlaaDoor.mi
open Go.R
set_option maxRecDepth 10000
set_option linter.unusedVariables false
set_option linter.unusedSimpArgs false
open m1 m2 m3 m4 m5 m6 ma ml mb mc md mf mg mh
abbrev dW (l : List (List Int)) (b : Nat) : List Int := l.getD b default
structure RSn (c : VFnT) (I O : List (List Int)) : Prop where
 li : I.length = c.blocks.length
 lo : O.length = c.blocks.length
 ai : ∀ b, Asc (dW I b)
 ao : ∀ b, Asc (dW O b)
 si : ∀ b, ∀ x ∈ dW I b, 0 ≤ x ∧ LIn c b x.toNat
 so : ∀ b, ∀ x ∈ dW O b, 0 ≤ x ∧ LOut c b x.toNat
 mo : ∀ b, b < c.blocks.length → ∀ r, oS (dW O b) r → outS c (fun t r => oS (dW I t) r) b r
 mi : ∀ b, b < c.blocks.length → ∀ r, oS (dW I b) r → inS (dO c b) (oS (dW O b)) r
theorem rsn_zero {c : VFnT} {n : Nat} (h : n = c.blocks.length) : RSn c (List.replicate n []) (List.replicate n []) := by
 have e : ∀ b, dW (List.replicate n ([] : List Int)) b = [] := fun b => by
  unfold dW
  rw [List.getD_eq_getElem?_getD, List.getElem?_replicate]
  split <;> rfl
 have no : ∀ b r, ¬ oS (dW (List.replicate n ([] : List Int)) b) r := fun b r h => by rw [e] at h; cases h
 exact ⟨by simp [h], by simp [h], fun b => by rw [e]; exact List.Pairwise.nil, fun b => by rw [e]; exact List.Pairwise.nil, fun b x hx => by (rw [e] at hx; cases hx), fun b x hx => by (rw [e] at hx; cases hx), fun b _ r h => absurd h (no b r), fun b _ r h => absurd h (no b r)⟩
theorem eu {l : List (List Int)} {b b' : Nat} {x : List Int} (hb : b < l.length) : dW (l.set b x) b' = if b = b' then x else dW l b' := by
 unfold dW
 rw [at_set]
 by_cases h : b = b'
 ·
  subst h; rw [if_pos ⟨rfl, hb⟩, if_pos rfl]
 rw [if_neg (fun e => h e.1), if_neg h]
theorem j3 : ∀ {b a : List Int}, Asc a → Asc b → (∀ x ∈ a, x ∈ b) → a.Sublist b
 | [], [], _, _, _ => List.Sublist.refl _
 | [], x :: a, _, _, h => absurd (h x (List.mem_cons_self ..)) List.not_mem_nil
 | y :: b, [], _, _, _ => List.nil_sublist _
 | y :: b, x :: a, ha, hb, h => by
  have ha' := List.pairwise_cons.1 ha
  have hb' := List.pairwise_cons.1 hb
  by_cases e : x = y
  ·
   subst e
   refine List.Sublist.cons_cons _ (j3 ha'.2 hb'.2 fun z hz => ?_)
   rcases List.mem_cons.1 (h z (List.mem_cons_of_mem _ hz)) with e | e
   ·
    subst e; have := ha'.1 z hz; omega
   exact e
  have hx : x ∈ b := by
   rcases List.mem_cons.1 (h x (List.mem_cons_self ..)) with e' | e'
   ·
    exact absurd e' e
   exact e'
  have hyx := hb'.1 x hx
  refine List.Sublist.cons _ (j3 ha hb'.2 fun z hz => ?_)
  rcases List.mem_cons.1 (h z hz) with e' | e'
  ·
   rcases List.mem_cons.1 hz with A | A
   ·
    exact absurd (A.symm.trans e') e
   have := ha'.1 z A; omega
  exact e'
theorem ju {a b : List Int} (ha : Asc a) (hb : Asc b) (h : ∀ x ∈ a, x ∈ b) (hl : b.length = a.length) : a = b := (j3 ha hb h).eq_of_length hl.symm
theorem iK {a b : List Int} (ha : Asc a) (hb : Asc b) (h : ∀ x ∈ a, x ∈ b) : a.length ≤ b.length := (j3 ha hb h).length_le
theorem Lst.ext {l : List Int} {S S' : Nat → Prop} (h : Lst l S) (hs : ∀ r, S r ↔ S' r) : Lst l S' := ⟨h.asc, fun x => by rw [h.mem, hs]⟩
def uS (c : VFnT) (I : List (List Int)) (b q r : Nat) : Prop := ∃ t ∈ (bE (dO c b)).take q, oS (dW I t.toNat) r
theorem uS_zero {c : VFnT} {I : List (List Int)} {b : Nat} : Lst [] (uS c I b 0) := Lst.nil fun r ⟨t, h, _⟩ => by simp at h
theorem RSn.lstI {c : VFnT} {I O : List (List Int)} (h : RSn c I O) (b : Nat) : Lst (dW I b) (oS (dW I b)) := ⟨h.ai b, fun x => ⟨fun hx => ⟨(h.si b x hx).1, by unfold oS; rwa [Int.toNat_of_nonneg (h.si b x hx).1]⟩, fun hx => by have z := hx.2; unfold oS at z; rwa [Int.toNat_of_nonneg hx.1] at z⟩⟩
theorem uS_step {c : VFnT} {I O : List (List Int)} {b q : Nat} {o : List Int} (hs : RSn c I O) (hq : q < (bE (dO c b)).length) (h : Lst o (uS c I b q)) : Lst (cv o (dW I ((bE (dO c b)).getD q 0).toNat)) (uS c I b (q + 1)) := by
 refine Lst.ext (Lst.union h (hs.lstI _)) fun r => ?_
 unfold uS
 rw [gZ hq (d := 0)]
 constructor
 ·
  rintro (⟨t, z, A⟩ | z)
  ·
   exact ⟨t, List.mem_append.2 (.inl z), A⟩
  exact ⟨_, List.mem_append.2 (.inr (List.mem_singleton.2 rfl)), z⟩
 rintro ⟨t, z, A⟩
 rcases List.mem_append.1 z with z | z
 ·
  exact .inl ⟨t, z, A⟩
 rw [List.mem_singleton] at z; subst z; exact .inr A
theorem uS_all {c : VFnT} {I : List (List Int)} {b q r : Nat} (hq : (bE (dO c b)).length ≤ q) : uS c I b q r ↔ outS c (fun t r => oS (dW I t) r) b r := by
 unfold uS outS
 rw [List.take_of_length_le hq]
theorem uS_in {c : VFnT} {I O : List (List Int)} {b q r : Nat} (hs : RSn c I O) (h : uS c I b q r) : LOut c b r := by
 obtain ⟨t, z, A⟩ := h
 refine ⟨t, List.mem_of_mem_take z, ?_⟩
 have := hs.si _ _ A
 exact this.2
theorem uS_lt {c : VFnT} (v : VF c) {I O : List (List Int)} {b q r : Nat} (hs : RSn c I O) (h : uS c I b q r) : (r : Int) < c.regs := ir v (uS_in hs h)
theorem rpo_of {c : VFnT} (v : VF c) {I O : List (List Int)} {b q : Nat} {o : List Int} (hs : RSn c I O) (hb : b < c.blocks.length) (hl : (dO c b).ins.length ≤ 1073741824) (ho : Lst o (uS c I b q)) : RpO (dO c b) o c.regs := by
 refine ⟨v.regs, hl, fun i hi => cG (v.ins b hb i hi), fun x hx => ?_, ho.asc, fun x hx => ?_⟩
 ·
  unfold endV at hx
  split at hx
  ·
   rename_i hf; rw [List.mem_singleton] at hx; have := v.fin b hb hf; omega
  cases hx
 have z := (ho.mem x).1 hx
 have A := uS_lt v hs z.2
 omega
theorem rpo_out {c : VFnT} (v : VF c) {b : Nat} {o : List Int} (hb : b < c.blocks.length) (hl : (dO c b).ins.length ≤ 1073741824) (ho : Lst o (LOut c b)) : RpO (dO c b) o c.regs := by
 refine ⟨v.regs, hl, fun i hi => cG (v.ins b hb i hi), fun x hx => ?_, ho.asc, fun x hx => ?_⟩
 ·
  unfold endV at hx
  split at hx
  ·
   rename_i hf; rw [List.mem_singleton] at hx; have := v.fin b hb hf; omega
  cases hx
 have z := (ho.mem x).1 hx
 have A := ir v z.2
 omega
theorem im {l : List Int} {S : Nat → Prop} (h : Lst l S) (r : Nat) : oS l r ↔ S r := by
 unfold oS
 rw [h.mem]
 exact ⟨fun h => by simpa using h.2, fun h => ⟨by omega, by simpa using h⟩⟩
structure Stp (c : VFnT) (I O : List (List Int)) (b : Nat) (o i : List Int) : Prop where
 lo : Lst o (outS c (fun t r => oS (dW I t) r) b)
 li : Lst i (inS (dO c b) (oS o))
theorem stp_of {c : VFnT} {I O : List (List Int)} {b q : Nat} {o : List Int} {l : List (List Int)} (hq : (bE (dO c b)).length ≤ q) (ho : Lst o (uS c I b q)) (hl : RpF (dO c b) o l) : Stp c I O b o (dW l 0) :=
 ⟨Lst.ext ho fun r => uS_all hq, Lst.ext (hl.pt 0 (Nat.zero_le _)) fun r => Iff.rfl⟩
theorem stp_sub {c : VFnT} {I O : List (List Int)} {b : Nat} {o i : List Int} (h : RSn c I O) (hb : b < c.blocks.length) (s : Stp c I O b o i) : (∀ x ∈ dW O b, x ∈ o) ∧ (∀ x ∈ dW I b, x ∈ i) := by
 have A : ∀ r, oS (dW O b) r → oS o r := fun r hr => (im s.lo r).2 (h.mo b hb r hr)
 refine ⟨fun x hx => ?_, fun x hx => ?_⟩
 ·
  have z := (h.so b x hx).1
  have := A x.toNat (by unfold oS; rwa [Int.toNat_of_nonneg z])
  unfold oS at this; rwa [Int.toNat_of_nonneg z] at this
 have z := (h.si b x hx).1
 have := h.mi b hb x.toNat (by unfold oS; rwa [Int.toNat_of_nonneg z])
 exact (s.li.mem x).2 ⟨z, gI A _ this⟩
theorem rsn_set {c : VFnT} {I O : List (List Int)} {b : Nat} {o i : List Int} (h : RSn c I O) (hb : b < c.blocks.length) (s : Stp c I O b o i) : RSn c (I.set b i) (O.set b o) := by
 obtain ⟨so, si⟩ := stp_sub h hb s
 have hbi : b < I.length := by rw [h.li]; exact hb
 have hbo : b < O.length := by rw [h.lo]; exact hb
 have mI : ∀ t r, oS (dW I t) r → oS (dW (I.set b i) t) r := fun t r hr => by
  rw [eu hbi]
  split
  ·
   rename_i e; subst e; exact si _ hr
  exact hr
 refine ⟨by rw [List.length_set]; exact h.li, by rw [List.length_set]; exact h.lo, fun b' => ?_, fun b' => ?_, fun b' x hx => ?_, fun b' x hx => ?_, fun b' hb' r hr => ?_, fun b' hb' r hr => ?_⟩
 ·
  rw [eu hbi]; split
  ·
   exact s.li.asc
  exact h.ai b'
 ·
  rw [eu hbo]; split
  ·
   exact s.lo.asc
  exact h.ao b'
 ·
  rw [eu hbi] at hx
  split at hx
  ·
   rename_i e; subst e
   obtain ⟨z, N⟩ := (s.li.mem x).1 hx
   refine ⟨z, LIn_clo c b hb _ (gI (fun r hr => ?_) _ N)⟩
   obtain ⟨t, A, E⟩ := (im s.lo r).1 hr
   have J := h.si _ _ E
   exact ⟨t, A, J.2⟩
  exact h.si b' x hx
 ·
  rw [eu hbo] at hx
  split at hx
  ·
   rename_i e; subst e
   obtain ⟨z, t, A, E⟩ := (s.lo.mem x).1 hx
   have J := h.si _ _ E
   exact ⟨z, t, A, J.2⟩
  exact h.so b' x hx
 ·
  rw [eu hbo] at hr
  split at hr
  ·
   rename_i e; subst e
   exact ie (fun t r => mI t r) _ _ ((im s.lo r).1 hr)
  exact ie (fun t r => mI t r) _ _ (h.mo b' hb' r hr)
 rw [eu hbi] at hr
 rw [eu hbo]
 split at hr
 ·
  rename_i e; subst e
  rw [if_pos rfl]
  exact (im s.li r).1 hr
 rename_i e
 rw [if_neg e]
 exact h.mi b' hb' r hr
def cntL (I : List (List Int)) : Nat := (I.map List.length).sum
theorem cntL_set {I : List (List Int)} {b : Nat} (hb : b < I.length) (s : List Int) : cntL (I.set b s) + (dW I b).length = cntL I + s.length := by
 unfold cntL dW
 rw [List.map_set]
 have := sum_set (I.map List.length) b s.length (by rw [List.length_map]; exact hb)
 rw [List.getD_eq_getElem?_getD, List.getElem?_map, List.getElem?_eq_getElem hb] at this
 rw [List.getD_eq_getElem?_getD, List.getElem?_eq_getElem hb]
 exact this
theorem cntL_le {l : List (List Int)} {B : Nat} (h : ∀ b, (dW l b).length ≤ B) : cntL l ≤ l.length * B := by
 unfold cntL
 have key : ∀ (l : List (List Int)), (∀ s ∈ l, s.length ≤ B) → (l.map List.length).sum ≤ l.length * B := by
  intro l
  induction l with
  | nil => intro _; simp
  | cons s l ih =>
   intro h
   have z := ih fun x hx => h x (List.mem_cons_of_mem _ hx)
   have A := h s (List.mem_cons_self ..)
   rw [List.map_cons, List.sum_cons, List.length_cons, Nat.succ_mul]; omega
 refine key l fun s hs => ?_
 obtain ⟨b, hb, rfl⟩ := List.mem_iff_getElem.1 hs
 have := h b
 unfold dW at this
 rwa [List.getD_eq_getElem?_getD, List.getElem?_eq_getElem hb] at this
def cnt2 (I O : List (List Int)) : Nat := cntL I + cntL O
theorem rsn_len {c : VFnT} (v : VF c) {I O : List (List Int)} (h : RSn c I O) (b : Nat) : ((dW I b).length : Int) ≤ c.regs ∧ ((dW O b).length : Int) ≤ c.regs := by
 have hr := v.regs
 constructor
 ·
  have := iL (m := c.regs) 0 hr.1 (h.ai b) fun x hx => by
   obtain ⟨z, A⟩ := h.si b x hx
   have := lin_lt v A
   exact ⟨z, by omega⟩
  omega
 have := iL (m := c.regs) 0 hr.1 (h.ao b) fun x hx => by
  obtain ⟨z, A⟩ := h.so b x hx
  have := ir v A
  exact ⟨z, by omega⟩
 omega
theorem cnt2_le {c : VFnT} (v : VF c) {I O : List (List Int)} (h : RSn c I O) : cnt2 I O ≤ c.blocks.length * 6000 := by
 have hr := v.regs
 have z := cntL_le (l := I) (B := 3000) fun b => by have := (rsn_len v h b).1; omega
 have A := cntL_le (l := O) (B := 3000) fun b => by have := (rsn_len v h b).2; omega
 rw [h.li] at z; rw [h.lo] at A
 unfold cnt2; omega
def CL (c : VFnT) (I O : List (List Int)) (b : Nat) : Prop := (∀ r, outS c (fun t r => oS (dW I t) r) b r → oS (dW O b) r) ∧ ∀ r, inS (dO c b) (oS (dW O b)) r → oS (dW I b) r
theorem stp_same {c : VFnT} {I O : List (List Int)} {b : Nat} {o i : List Int} (h : RSn c I O) (hb : b < c.blocks.length) (s : Stp c I O b o i) (E : (o.length : Int) = ((dW O b).length : Int)) (J : (i.length : Int) = ((dW I b).length : Int)) : I.set b i = I ∧ O.set b o = O ∧ CL c I O b := by
 obtain ⟨so, si⟩ := stp_sub h hb s
 have z := ju (h.ao b) s.lo.asc so (by omega)
 have A := ju (h.ai b) s.li.asc si (by omega)
 refine ⟨by rw [← A]; exact fu _ _, by rw [← z]; exact fu _ _, fun r hr => ?_, fun r hr => ?_⟩
 ·
  rw [z]; exact (im s.lo r).2 hr
 rw [z] at hr; rw [A]; exact (im s.li r).2 hr
theorem stp_more {c : VFnT} {I O : List (List Int)} {b : Nat} {o i : List Int} (h : RSn c I O) (hb : b < c.blocks.length) (s : Stp c I O b o i) : cnt2 I O ≤ cnt2 (I.set b i) (O.set b o) ∧ (((o.length : Int) ≠ ((dW O b).length : Int) ∨ (i.length : Int) ≠ ((dW I b).length : Int)) → cnt2 I O < cnt2 (I.set b i) (O.set b o)) := by
 obtain ⟨so, si⟩ := stp_sub h hb s
 have z := iK (h.ao b) s.lo.asc so
 have A := iK (h.ai b) s.li.asc si
 have E := cntL_set (I := I) (b := b) (by rw [h.li]; exact hb) i
 have J := cntL_set (I := O) (b := b) (by rw [h.lo]; exact hb) o
 unfold cnt2
 exact ⟨by omega, fun h => by omega⟩
theorem mv {c : VFnT} {I O z A : List (List Int)} {b : Nat} {o i : List Int} {m2 m' : Bool} (h : RSn c I O) (hb : b < c.blocks.length) (s : Stp c I O b o i) (h0 : m2 = false → I = z ∧ O = A) (N : m2 = true → cnt2 z A < cnt2 I O)
  (e : m' = ((m2 || ((o.length : Int) != ((O.getD b default).length : Int))) || ((i.length : Int) != ((I.getD b default).length : Int)))) : (m' = false → I.set b i = z ∧ O.set b o = A) ∧ (m' = true → cnt2 z A < cnt2 (I.set b i) (O.set b o)) ∧ (m' = false → (m2 = false → ∀ b' : Nat, b < b' → b' < c.blocks.length → CL c I O b') → ∀ b' : Nat, b ≤ b' → b' < c.blocks.length → CL c (I.set b i) (O.set b o) b') := by
 have hm := stp_more h hb s
 have key : m' = false → m2 = false ∧ (o.length : Int) = ((dW O b).length : Int) ∧ (i.length : Int) = ((dW I b).length : Int) := fun hf => by
  rw [e] at hf
  simp only [Bool.or_eq_false_iff, bne_eq_false_iff_eq] at hf
  exact ⟨hf.1.1, hf.1.2, hf.2⟩
 refine ⟨fun hf => ?_, fun ht => ?_, fun hf hc b' V Z => ?_⟩
 ·
  obtain ⟨k1, k2, T⟩ := key hf
  obtain ⟨E, J, _⟩ := stp_same h hb s k2 T
  rw [E, J]; exact h0 k1
 ·
  rw [e] at ht
  simp only [Bool.or_eq_true, bne_iff_ne] at ht
  rcases ht with (ht | ht) | ht
  ·
   have := N ht; omega
  ·
   have := hm.2 (.inl ht)
   cases m2 with
   | false => obtain ⟨rfl, rfl⟩ := h0 rfl; exact this
   | true => have := N rfl; omega
  have := hm.2 (.inr ht)
  cases m2 with
  | false => obtain ⟨rfl, rfl⟩ := h0 rfl; exact this
  | true => have := N rfl; omega
 obtain ⟨k1, k2, T⟩ := key hf
 obtain ⟨E, J, U⟩ := stp_same h hb s k2 T
 rw [E, J]
 rcases Nat.eq_or_lt_of_le V with e' | e'
 ·
  subst e'; exact U
 exact hc k1 b' e' Z
theorem bkf_of {c : VFnT} {I O : List (List Int)} (h : RSn c I O) (hc : ∀ b, b < c.blocks.length → CL c I O b) : BkF c I O := by
 have hclo : Clo c (fun b r => oS (dW I b) r) := fun b hb r hr => (hc b hb).2 r (gI (fun q hq => (hc b hb).1 q hq) r hr)
 refine ⟨h.li, h.lo, fun b hb => ⟨h.ai b, fun x => ⟨h.si b x, fun hx => ?_⟩⟩, fun b hb => ⟨h.ao b, fun x => ⟨h.so b x, fun hx => ?_⟩⟩⟩
 ·
  have := hx.2 _ hclo
  unfold oS at this; rwa [Int.toNat_of_nonneg hx.1] at this
 obtain ⟨z, t, A, E⟩ := hx
 have := (hc b hb).1 x.toNat ⟨t, A, E _ hclo⟩
 unfold oS at this; rwa [Int.toNat_of_nonneg z] at this
theorem ptf_of {c : VFnT} {b : Nat} {o : List Int} {l : List (List Int)} (ho : Lst o (LOut c b)) (h : RpF (dO c b) o l) : PtF c b l := by
 refine ⟨h.len, fun i hi => Lst.ext (h.pt i hi) fun r => ?_⟩
 unfold rpS ptS
 have e : ∀ r, oS o r ↔ LOut c b r := im ho
 constructor
 ·
  exact jC (fun q hq => hq.imp (e q).1 id) _ r
 exact jC (fun q hq => hq.imp (e q).2 id) _ r
set_option maxHeartbeats 2000000 in
theorem rblocks_c (ex : FuncId) {an : Option Addr} {av : Nat} (c : VFnT) {F : Fz} {H : Heap} {R : List Fp} (hs : HS (.of H []) F H [] R) (jq : in64 c.params) (jw : in64 c.regs) (T : SR F (.slice an c.blocks.length av) c.blocks) (hT : TB 37 tabC F) (hins : ∀ j, (c.blocks.getD j default).ins.length ≤ 1073741824) : C Tryd.prog 1 (KT 60 ex 37 tabC) 32 [(.agg ⟨[(iI c.params), (iI c.regs), (.slice an c.blocks.length av)]⟩)] H fun v H' => ∃ (ax : Option Addr) (kx : Nat) (x : List (List Int)) (ay : Option Addr) (ky : Nat) (y : List (List Int)) (F' : Fz), Fz.le F F' ∧ HS (.of H []) F' H' [] R ∧ v = .tuple ⟨[.slice ax x.length kx, .slice ay y.length ky]⟩ ∧ SR F' (.slice ax x.length kx) x ∧ SR F' (.slice ay y.length ky) y ∧ (dQ c = true → BkF c x y) ∧ (dQ c = false → x = [] ∧ y = []) := by
 refine aJ Tryd.func32 rfl rfl ?_
 refine aq 1 rfl ?_
 refine aa ?_
 refine aC (be hs rfl rfl) rfl rfl ?_
 rintro _ H2 _ ⟨b1, rfl, (f9 : HS _ _ _ [[(b1, .cells [(iI c.params), (iI c.regs), (.slice an c.blocks.length av)] none false)]] _), _⟩
 refine wRo 2 1 [] 2 3 [] [(2, (.slice none 0 0)), (3, (.slice none 0 0))] trivial rfl fun _ => ?_
 refine ab 3 rfl ?_
 refine aa ?_
 let hw : Value := (.agg ⟨[(iI c.params), (iI c.regs), (.slice an c.blocks.length av)]⟩)
 refine wRo 1 0 [(0, .o hw)] 12 12 [] [(12, hw)] (vA (qn 24 0 3 (HS.hc f9 (i := 0) rfl) rfl rfl rfl rfl) trivial) rfl fun _ => ?_
 refine az (am rfl rfl rfl) rfl rfl (m3.gE ex c (HS.call f9) (by omega) (by omega) T hT (by exact fun j => Nat.le_trans (hins j) (by omega))) ?_
 rintro _ H5 ⟨r5, F5, es, ch, rfl, rfl⟩
 replace ch : HS _ _ _ [_] _ := HS.back f9 rfl ch
 replace hT := hT.mono es
 replace T := T.mono es
 refine wRo 1 2 [] 14 14 [] [(14, (.bool (!(dQ c))))] trivial rfl fun _ => ?_
 refine ab 1 rfl ?_
 refine ap 1 2 (v := (!(dQ c))) rfl rfl rfl rfl (fun e5 => ?_) (fun e5 => ?_)
 ·
  have c7 := e5
  try simp only [BS] at c7
  have hv := c7
  refine wR 1 [] 2 3 [] [(2, (.slice none 0 0)), (3, (.slice none 0 0))] trivial rfl fun _ => ?_
  refine ah ⟨.inr rfl, _, rfl, none, 0, ([] : List (List Int)), none, 0, ([] : List (List Int)), _, (es), (HS.forget ch), rfl, (SR.nil : SR F5 (.slice none 0 0) ([] : List (List Int))), (SR.nil : SR F5 (.slice none 0 0) ([] : List (List Int))), (by exact fun h => absurd (h.symm.trans hv) (by decide)), (by exact fun _ => ⟨rfl, rfl⟩)⟩
 have c7 := e5
 try simp only [BS] at c7
 have hv := c7
 have vF := vF_of hv
 have hnb := vF.nb
 have hrg := vF.regs
 refine aQ rfl ?_
 refine wfv (v := (.pointer (some ⟨b1, 2, none⟩))) (cg rfl rfl) ?_
 refine aB (v := (.slice an c.blocks.length av)) (id := .l b1) (bh (i := 2) rfl rfl (HS.hc ch.log0 (i := 0) rfl) rfl rfl) rfl rfl (bg rfl) (kb rfl) ?_
 refine aB (v := (iI (c.blocks.length : Int))) (id := .v) (iM (α := BlkT) rfl rfl (SR.sv T ch.log0)) rfl rfl (jR rfl) (dI _) ?_
 refine cL (id := .x []) (hP ([] : (List Int)) ch.log0 rfl rfl rfl rfl rfl rfl rfl rfl rfl ⟨none, 0, rfl, SR.nil⟩ (by omega) (by omega)) rfl rfl (by rintro _ _ p9 ⟨a9, k9, rfl, hr, _, hwr⟩; exact dh rfl rfl (Wr.did hwr)) (kb rfl) ?_
 rintro _ hV p9 ⟨a9, k9, rfl, hr, a6, _⟩ hK hg
 replace a6 := HS.lg a6 ch hg
 generalize ({ hV with log := hK } : Heap) = i2 at a6 ⊢
 have a6 : HS _ _ _ [_, p9] _ := a6
 refine wfv (v := (.pointer (some ⟨b1, 2, none⟩))) (cg rfl rfl) ?_
 refine aB (v := (.slice an c.blocks.length av)) (id := .l b1) (bh (i := 2) rfl rfl (HS.hc a6.log0 (i := 0) rfl) rfl rfl) rfl rfl (bg rfl) (⟨.inl rfl, ⟨.inr List.not_mem_nil, ⟨.inr trivial, ⟨.inr trivial, ⟨.inr trivial, trivial⟩⟩⟩⟩⟩) ?_
 refine aB (v := (iI (c.blocks.length : Int))) (id := .v) (iM (α := BlkT) rfl rfl (SR.sv T a6.log0)) rfl rfl (jR rfl) (dI _) ?_
 refine cL (id := .x []) (hP ([] : (List Int)) a6.log0 rfl rfl rfl rfl rfl rfl rfl rfl rfl ⟨none, 0, rfl, SR.nil⟩ (by omega) (by omega)) rfl rfl (by rintro _ _ ha ⟨e0, g8, rfl, f7, _, hwr⟩; exact dh rfl rfl (Wr.did hwr)) (⟨.inl rfl, ⟨.inl rfl, ⟨.inl rfl, ⟨.inr ⟨trivial, trivial⟩, ⟨.inr trivial, ⟨.inr List.not_mem_nil, ⟨.inr trivial, trivial⟩⟩⟩⟩⟩⟩⟩) ?_
 rintro _ hW ha ⟨e0, g8, rfl, f7, b3, _⟩ hM hh
 replace b3 := HS.lg b3 a6 hh
 generalize ({ hW with log := hM } : Heap) = i3 at b3 ⊢
 have b3 : HS _ _ _ [_, _, ha] _ := b3
 refine fa (.slice a9 (List.replicate c.blocks.length ([] : (List Int))).length k9) rfl rfl rfl ?_
 refine fa (.slice e0 (List.replicate c.blocks.length ([] : (List Int))).length g8) rfl rfl rfl ?_
 refine bU ?_
 refine aq 3 rfl ?_
 refine wR 2 [] 1 0 [6] [(6, (.bool true))] trivial rfl fun _ => ?_
 let he : Fp := [(b1, .cells [(iI c.params), (iI c.regs), (.slice an c.blocks.length av)] none false)]
 refine aE (fun (mm : Nat) f H' => ∃ (mo : Bool) (I1 : List (List Int)) (O1 : List (List Int)) (a0 : Option Addr) (a2 : Nat) (b2 : Fp) (a1 : Option Addr) (a3 : Nat) (bb : Fp) (F' : Fz), Fz.le F5 F' ∧ HS (Base.of H []) F' H' [he, b2, bb] R ∧ OS F' (.slice a0 I1.length a2) I1 b2 ∧ OS F' (.slice a1 O1.length a3) O1 bb ∧ aH f [(1, (.pointer (some ⟨b1, 0, none⟩))), (2, (.slice none 0 0)), (3, (.slice none 0 0)), (4, (.slice a0 I1.length a2)), (5, (.slice a1 O1.length a3)), (6, (.bool mo))] ∧ mm = mea mo (c.blocks.length * 6000) (cnt2 I1 O1) ∧ (RSn c I1 O1) ∧ (mo = false → ∀ b, b < c.blocks.length → CL c I1 O1 b)) _ ⟨true, List.replicate c.blocks.length ([] : (List Int)), List.replicate c.blocks.length ([] : (List Int)), a9, k9, p9, e0, g8, ha, _, fR, b3, hr, f7, ⟨rfl, rfl, rfl, rfl, rfl, rfl, trivial⟩, rfl, (by exact rsn_zero rfl), (by intro h; cases h)⟩ ?_
 rintro kk kF kv ⟨mo, I1, O1, a0, a2, b2, a1, a3, bb, hS, c3, dt, c6, b0, f3, rfl, ez, cl⟩ hF
 refine au _ f3 (fun _ => ?_)
 clear f3
 replace hT := hT.mono c3
 replace T := T.mono c3
 have j0 := ez.li
 have j2 := ez.lo
 refine aq 2 rfl ?_
 refine wR 1 [] 23 23 [] [(23, (.bool mo))] trivial rfl fun _ => ?_
 refine ap 3 5 (v := mo) rfl rfl rfl rfl (fun c9 => ?_) (fun c9 => ?_)
 ·
  have em := c9
  try simp only [BS] at em
  have hmo := em
  refine wR 2 [] 1 0 [6] [(6, (.bool false))] trivial rfl fun _ => ?_
  refine wR 2 [(1, .o (.slice an c.blocks.length av))] 24 27 [7] [(7, (iI ((c.blocks.length : Int) - 1)))] (vA (ql 22 2 (HS.hc dt (i := 0) rfl) rfl rfl) (vA (vi (n := (c.blocks.length : Int) - 1) (by omega)) trivial)) rfl fun _ => ?_
  refine aE (fun (mm : Nat) f H' => ∃ (bz : Int) (m2 : Bool) (V : List (List Int)) (O2 : List (List Int)) (J : Option Addr) (N : Nat) (a4 : Fp) (z : Option Addr) (E : Nat) (a5 : Fp) (F' : Fz), Fz.le hS F' ∧ HS (Base.of H []) F' H' [he, a4, a5] R ∧ OS F' (.slice J V.length N) V a4 ∧ OS F' (.slice z O2.length E) O2 a5 ∧ aH f [(1, (.pointer (some ⟨b1, 0, none⟩))), (2, (.slice none 0 0)), (3, (.slice none 0 0)), (4, (.slice J V.length N)), (5, (.slice z O2.length E)), (6, (.bool m2)), (7, (iI bz)), (23, (.bool mo))] ∧ mm = (bz + 1).toNat ∧ (RSn c V O2) ∧ (-1 ≤ bz ∧ bz < (c.blocks.length : Int)) ∧ (m2 = false → V = I1 ∧ O2 = O1) ∧ (m2 = true → cnt2 I1 O1 < cnt2 V O2) ∧ (m2 = false → ∀ b : Nat, bz < (b : Int) → b < c.blocks.length → CL c V O2 b)) _ ⟨(c.blocks.length : Int) - 1, false, I1, O1, a0, a2, b2, a1, a3, bb, _, fR, dt, c6, b0, ⟨rfl, rfl, rfl, rfl, rfl, rfl, rfl, rfl, trivial⟩, rfl, (by exact ez), (by omega), (by exact fun _ => ⟨rfl, rfl⟩), (by intro h; cases h), (by intro _ b h1 h2; omega)⟩ ?_
  rintro kl kG kw ⟨bz, m2, V, O2, J, N, a4, z, E, a5, kn, c4, b4, A, U, f4, rfl, bk, hbz, h3, hp, hcl⟩ hG
  refine au _ f4 (fun _ => ?_)
  clear f4
  replace hT := hT.mono c4
  replace T := T.mono c4
  have j1 := bk.li
  have kc := bk.lo
  refine aq 2 rfl ?_
  refine wR 1 [] 28 29 [] [(29, (.bool (decide ((0 : Int) ≤ bz))))] trivial rfl fun _ => ?_
  refine ap 4 5 (v := (decide ((0 : Int) ≤ bz))) rfl rfl rfl rfl (fun dd => ?_) (fun dd => ?_)
  ·
   have e2 := dd
   try simp only [BS] at e2
   have hbn : bz.toNat < c.blocks.length := by omega
   have hbl := hins bz.toNat
   refine wR 2 [] 1 0 [8] [(8, (.slice none 0 0))] trivial rfl fun _ => ?_
   refine aa ?_
   obtain ⟨e6, g0⟩ := Sv.view (SR.sv T b4)
   obtain ⟨h7, h8, ib, ih, hk⟩ := BlkT.fx (g0 bz.toNat)
   let hf : Value := (.agg ⟨[(.slice (cA (e6 bz.toNat) 0) (c.blocks.getD bz.toNat default).ins.length (cK (e6 bz.toNat) 0)), (iI (c.blocks.getD bz.toNat default).fin), (iI (c.blocks.getD bz.toNat default).reg), (iI (c.blocks.getD bz.toNat default).tgt), (iI (c.blocks.getD bz.toNat default).els)]⟩)
   refine wRo 5 0 [(1, .o (.slice an c.blocks.length av)), (4, .o hf)] 32 36 [] [(36, hf)] (vA (ql 22 2 (HS.hc b4 (i := 0) rfl) rfl rfl) (vA (Sv.ix (j := bz) (SR.sv T b4) (by omega) (by omega)) (vA (qn 48 0 5 (BlkT.vw (g0 bz.toNat) (by omega)) rfl rfl rfl rfl) trivial))) rfl fun _ => ?_
   refine az (am rfl rfl rfl) rfl rfl (ma.rsucc_c ex (c.blocks.getD bz.toNat default) (HS.call b4) hk (by omega) (by omega) (by omega) (by omega) hT) ?_
   rintro _ kz ⟨c8, d4, kJ, hn, cc, dv, rfl, b9, rfl⟩
   replace dv : HS _ _ _ [_, a4, a5] _ := HS.back b4 rfl dv
   refine wa (.slice c8 (bE (c.blocks.getD bz.toNat default)).length d4) rfl rfl rfl ?_
   refine ab 3 rfl ?_
   refine wR 2 [] 1 0 [10] [(10, (iI 0))] trivial rfl fun _ => ?_
   refine aE (fun (mm : Nat) f H' => ∃ (o : List Int) (q : Nat) (ad : Option Addr) (ag : Nat) (F' : Fz), Fz.le hn F' ∧ HS (Base.of H []) F' H' [he, a4, a5] R ∧ SR F' (.slice ad o.length ag) o ∧ aH f [(1, (.pointer (some ⟨b1, 0, none⟩))), (2, (.slice none 0 0)), (3, (.slice none 0 0)), (4, (.slice J V.length N)), (5, (.slice z O2.length E)), (6, (.bool m2)), (7, (iI bz)), (8, (.slice ad o.length ag)), (9, (.slice c8 (bE (c.blocks.getD bz.toNat default)).length d4)), (10, (iI (q : Int))), (23, (.bool mo)), (29, (.bool (decide ((0 : Int) ≤ bz)))), (36, hf), (37, (.slice c8 (bE (c.blocks.getD bz.toNat default)).length d4))] ∧ mm = (bE (c.blocks.getD bz.toNat default)).length - q ∧ (Lst o (uS c V bz.toNat q)) ∧ (q ≤ (bE (c.blocks.getD bz.toNat default)).length)) _ ⟨([] : List Int), 0, none, 0, _, fR, dv, (SR.nil : SR hn (.slice none 0 0) ([] : List Int)), ⟨rfl, rfl, rfl, rfl, rfl, rfl, rfl, rfl, rfl, rfl, rfl, rfl, rfl, rfl, trivial⟩, rfl, (by exact uS_zero), (by omega)⟩ ?_
   rintro km kH kA ⟨o, q, ad, ag, ko, bl, Z, a8, f5, rfl, ho, hq⟩ hH
   refine au _ f5 (fun _ => ?_)
   clear f5
   replace hT := (hT.mono cc).mono bl
   replace T := (T.mono cc).mono bl
   replace b9 := b9.mono bl
   replace A := (A.mono cc).mono bl
   replace U := (U.mono cc).mono bl
   have ki := succ_len (b := (c.blocks.getD bz.toNat default))
   refine aq 2 rfl ?_
   refine wR 1 [] 38 41 [] [(41, (.bool (decide ((q : Int) < ((bE (c.blocks.getD bz.toNat default)).length : Int)))))] trivial rfl fun _ => ?_
   refine ap 3 5 (v := (decide ((q : Int) < ((bE (c.blocks.getD bz.toNat default)).length : Int)))) rfl rfl rfl rfl (fun dk => ?_) (fun dk => ?_)
   ·
    have e3 := dk
    try simp only [BS] at e3
    have hmem := mem_at (l := bE (c.blocks.getD bz.toNat default)) (q := q) (by omega)
    have hst := vF.succ bz.toNat hbn _ hmem
    have hul := Lst.len ho hrg.1 (fun r h => uS_lt vF bk h)
    have hil : ((V.getD ((bE (c.blocks.getD bz.toNat default)).getD q 0).toNat default).length : Int) ≤ c.regs := (rsn_len vF bk ((bE (c.blocks.getD bz.toNat default)).getD q 0).toNat).1
    refine aa ?_
    obtain ⟨jb, g2⟩ := Sv.view (SR.sv b9 Z)
    have kI := fI (g2 q)
    obtain ⟨co, g3⟩ := Sv.view (OS.sv A Z (i := 1) rfl)
    have h5 := fL (g3 ((bE (c.blocks.getD bz.toNat default)).getD q 0).toNat)
    refine wRo 8 0 [(5, .o (iI ((bE (c.blocks.getD bz.toNat default)).getD q 0))), (7, .o (.slice (cA (co ((bE (c.blocks.getD bz.toNat default)).getD q 0).toNat) 0) (V.getD ((bE (c.blocks.getD bz.toNat default)).getD q 0).toNat default).length (cK (co ((bE (c.blocks.getD bz.toNat default)).getD q 0).toNat) 0)))] 44 51 [] [(44, (.slice ad o.length ag)), (51, (.slice (cA (co ((bE (c.blocks.getD bz.toNat default)).getD q 0).toNat) 0) (V.getD ((bE (c.blocks.getD bz.toNat default)).getD q 0).toNat default).length (cK (co ((bE (c.blocks.getD bz.toNat default)).getD q 0).toNat) 0)))] (vA (Sv.ix (j := (q : Int)) (SR.sv b9 Z) (by omega) (by omega)) (vA (ql 3 0 (vI (g2 q) (by omega)) rfl rfl) (vA (Sv.ix (j := ((bE (c.blocks.getD bz.toNat default)).getD q 0)) (OS.sv A Z (i := 1) rfl) (by omega) (by omega)) (vA (ql 25 0 (vL (g3 ((bE (c.blocks.getD bz.toNat default)).getD q 0).toNat) (by omega)) rfl rfl) trivial)))) rfl fun _ => ?_
    refine az (am rfl rfl rfl) rfl rfl (ma.gY ex o (V.getD ((bE (c.blocks.getD bz.toNat default)).getD q 0).toNat default) (HS.call Z) a8 h5 hT (by omega)) ?_
    rintro _ kB ⟨e1, g9, kK, kp, hC, d1, rfl, hj, rfl⟩
    replace d1 : HS _ _ _ [_, _, _] _ := HS.back Z rfl d1
    refine wa (.slice e1 (cv o (V.getD ((bE (c.blocks.getD bz.toNat default)).getD q 0).toNat default)).length g9) rfl rfl rfl ?_
    refine ab 2 rfl ?_
    refine wR 1 [] 42 43 [10] [(10, (iI ((q : Int) + 1)))] (vA (vi (n := (q : Int) + 1) (by omega)) trivial) rfl fun _ => ?_
    refine hH _ _ _ ?_ ⟨cv o (V.getD ((bE (c.blocks.getD bz.toNat default)).getD q 0).toNat default), q + 1, e1, g9, _, (fT (bl) hC), d1, hj, ⟨rfl, rfl, rfl, rfl, rfl, rfl, rfl, rfl, rfl, rfl, rfl, rfl, rfl, rfl, trivial⟩, rfl, (by exact uS_step bk (show q < (bE (c.blocks.getD bz.toNat default)).length by omega) ho), (by omega)⟩
    omega
   have e3 := dk
   try simp only [BS] at e3
   refine aa ?_
   obtain ⟨fd, g4⟩ := Sv.view (SR.sv T Z)
   obtain ⟨ii, ik, it, iv, hl⟩ := BlkT.fx (g4 bz.toNat)
   let hz : Value := (.agg ⟨[(.slice (cA (fd bz.toNat) 0) (c.blocks.getD bz.toNat default).ins.length (cK (fd bz.toNat) 0)), (iI (c.blocks.getD bz.toNat default).fin), (iI (c.blocks.getD bz.toNat default).reg), (iI (c.blocks.getD bz.toNat default).tgt), (iI (c.blocks.getD bz.toNat default).els)]⟩)
   refine wRo 6 0 [(1, .o (.slice an c.blocks.length av)), (4, .o hz)] 53 58 [] [(57, hz), (58, (.slice ad o.length ag))] (vA (ql 22 2 (HS.hc Z (i := 0) rfl) rfl rfl) (vA (Sv.ix (j := bz) (SR.sv T Z) (by omega) (by omega)) (vA (qn 48 0 5 (BlkT.vw (g4 bz.toNat) (by omega)) rfl rfl rfl rfl) trivial))) rfl fun _ => ?_
   refine az (am rfl rfl rfl) rfl rfl (mh.rpoints_c ex (c.blocks.getD bz.toNat default) o (HS.call Z) hl (by omega) (by omega) (by omega) (by omega) a8 hT (by exact ⟨_, rpo_of vF bk hbn hbl ho⟩)) ?_
   rintro _ kC ⟨ja, kj, b6, h4, kr, c5, ar, rfl, et, jc⟩
   replace ar : HS _ _ _ [_, _, _, h4] _ := HS.back Z rfl ar
   replace A := A.mono c5
   replace U := U.mono c5
   replace a8 := a8.mono c5
   obtain ⟨a7, g5⟩ := Sv.view (OS.sv et ar (i := 3) rfl)
   have h6 := fL (g5 0)
   refine wRo 3 7 [(8, .o (.slice (cA (a7 0) 0) (b6.getD 0 default).length (cK (a7 0) 0)))] 60 61 [11] [(11, (.slice (cA (a7 0) 0) (b6.getD 0 default).length (cK (a7 0) 0)))] (vA (Sv.ix (j := 0) (OS.sv et ar (i := 3) rfl) (by decide) (by (have hq := RpF.len (by assumption); omega))) (vA (ql 25 0 (vL (g5 0) (by (have hq := RpF.len (by assumption); omega))) rfl rfl) trivial)) rfl fun _ => ?_
   refine ab 2 rfl ?_
   obtain ⟨fi, g6⟩ := Sv.view (OS.sv U ar (i := 2) rfl)
   have kL := fL (g6 bz.toNat)
   obtain ⟨f0, g7⟩ := Sv.view (OS.sv A ar (i := 1) rfl)
   have kM := fL (g7 bz.toNat)
   refine wR 1 [(7, .o (.slice (cA (fi bz.toNat) 0) (O2.getD bz.toNat default).length (cK (fi bz.toNat) 0))), (17, .o (.slice (cA (f0 bz.toNat) 0) (V.getD bz.toNat default).length (cK (f0 bz.toNat) 0)))] 62 82 [6] [(6, (.bool ((m2 || ((o.length : Int) != ((O2.getD bz.toNat default).length : Int))) || (((b6.getD 0 default).length : Int) != ((V.getD bz.toNat default).length : Int)))))] (vA (fun (g1 : m2 = false) => (Sv.ix (j := bz) (OS.sv U ar (i := 2) rfl) (by (try simp only [BS] at g1); (first | (dsimp only; omega) | omega | (have hq := RpF.len (by assumption); dsimp only at hq ⊢; omega) | (have hq := RpF.len (by assumption); omega))) (by (try simp only [BS] at g1); (first | (dsimp only; omega) | omega | (have hq := RpF.len (by assumption); dsimp only at hq ⊢; omega) | (have hq := RpF.len (by assumption); omega))))) (vA (fun (g1 : m2 = false) => (ql 25 0 (vL (g6 bz.toNat) (by (try simp only [BS] at g1); (first | (dsimp only; omega) | omega | (have hq := RpF.len (by assumption); dsimp only at hq ⊢; omega) | (have hq := RpF.len (by assumption); omega)))) rfl rfl)) (vA (fun (g1 : (m2 || ((o.length : Int) != ((O2.getD bz.toNat default).length : Int))) = false) => (Sv.ix (j := bz) (OS.sv A ar (i := 1) rfl) (by (try simp only [BS] at g1); (first | (dsimp only; omega) | omega | (have hq := RpF.len (by assumption); dsimp only at hq ⊢; omega) | (have hq := RpF.len (by assumption); omega))) (by (try simp only [BS] at g1); (first | (dsimp only; omega) | omega | (have hq := RpF.len (by assumption); dsimp only at hq ⊢; omega) | (have hq := RpF.len (by assumption); omega))))) (vA (fun (g1 : (m2 || ((o.length : Int) != ((O2.getD bz.toNat default).length : Int))) = false) => (ql 25 0 (vL (g7 bz.toNat) (by (try simp only [BS] at g1); (first | (dsimp only; omega) | omega | (have hq := RpF.len (by assumption); dsimp only at hq ⊢; omega) | (have hq := RpF.len (by assumption); omega)))) rfl rfl)) trivial)))) rfl fun _ => ?_
   refine aa ?_
   refine wRo 7 0 [] 83 89 [] [(85, (.slice z O2.length E)), (86, (iI bz)), (87, (.slice (cA (a7 0) 0) (b6.getD 0 default).length (cK (a7 0) 0))), (88, (.slice ad o.length ag)), (89, (.pointer (some ⟨sB (.slice J V.length N), sO (.slice J V.length N) + bz.toNat * Rp.sz (List Int), none⟩)))] (vA (Sv.ix (j := bz) (OS.sv A ar (i := 1) rfl) (by omega) (by omega)) trivial) rfl fun _ => ?_
   refine aF (dF (α := (List Int)) (j := bz.toNat) (off := 0) (q := 1) (b6.getD 0 default) A ar rfl rfl rfl rfl rfl rfl rfl rfl (aK (x := default) (by omega)) rfl (by rintro cs ⟨_, _, rfl, _⟩; exact ⟨Nat.le_of_ble_eq_true rfl, ⟨(cA (a7 0) 0), (cK (a7 0) 0), rfl, h6⟩⟩)) rfl ?_
   rintro _ kD ht ⟨dl, (go : HS _ _ _ [_, ht, _, _] _), _⟩
   have iz := OS.len' dl
   refine wRo 1 8 [] 90 90 [] [(90, (.pointer (some ⟨sB (.slice z O2.length E), sO (.slice z O2.length E) + bz.toNat * Rp.sz (List Int), none⟩)))] (vA (Sv.ix (j := bz) (OS.sv U go (i := 2) rfl) (by omega) (by omega)) trivial) rfl fun _ => ?_
   refine aF (dF (α := (List Int)) (j := bz.toNat) (off := 0) (q := 2) o U go rfl rfl rfl rfl rfl rfl rfl rfl (aK (x := default) (by omega)) rfl (by rintro cs ⟨_, _, rfl, _⟩; exact ⟨Nat.le_of_ble_eq_true rfl, ⟨ad, ag, rfl, a8⟩⟩)) rfl ?_
   rintro _ kE hu ⟨dn, (hE : HS _ _ _ [_, _, hu, _] _), _⟩
   have i1 := OS.len' dn
   refine ab 2 rfl ?_
   refine wR 1 [] 30 31 [7] [(7, (iI (bz - 1)))] (vA (vi (n := bz - 1) (by omega)) trivial) rfl fun _ => ?_
   have hst := stp_of (I := V) (O := O2) (show (bE (c.blocks.getD bz.toNat default)).length ≤ q by omega) ho (by assumption)
   have hmv := mv bk hbn hst h3 hp rfl
   refine hG _ _ _ ?_ ⟨bz - 1, ((m2 || ((o.length : Int) != ((O2.getD bz.toNat default).length : Int))) || (((b6.getD 0 default).length : Int) != ((V.getD bz.toNat default).length : Int))), V.set bz.toNat (b6.getD 0 default), O2.set bz.toNat o, J, N, ht, z, E, hu, _, (fT (fT (fT (c4) cc) bl) c5), (HS.sub hE (List.sublist_append_left _ _)), (OS.norm dl), (OS.norm dn), (agC rfl (agC rfl (agC rfl (agC (show Value.slice J V.length N = Value.slice J (V.set bz.toNat (b6.getD 0 default)).length N by rw [OS.len' dl]) (agC (show Value.slice z O2.length E = Value.slice z (O2.set bz.toNat o).length E by rw [OS.len' dn]) ⟨rfl, rfl, rfl, trivial⟩))))), rfl, (by exact rsn_set bk hbn hst), (by omega), (by exact hmv.1), (by exact hmv.2.1), (by exact fun h b h1 h2 => hmv.2.2 h (fun hm b h1 => hcl hm b (by omega)) b (by omega) h2)⟩
   omega
  have e2 := dd
  try simp only [BS] at e2
  refine hF _ _ _ ?_ ⟨m2, V, O2, J, N, a4, z, E, a5, _, (fT (c3) c4), b4, A, U, ⟨rfl, rfl, rfl, rfl, rfl, rfl, trivial⟩, rfl, (by exact bk), (by exact fun h b hb => hcl h b (by omega) hb)⟩
  rw [hmo]; exact mea_lt hp (cnt2_le vF bk)
 have em := c9
 try simp only [BS] at em
 refine wR 1 [] 2 3 [91, 92] [(2, (.slice a0 I1.length a2)), (3, (.slice a1 O1.length a3))] trivial rfl fun _ => ?_
 obtain ⟨kt, f1, d2, ds, kd⟩ := OS.frz c6 dt (i := 1) rfl
 have d2 : HS _ _ _ [_, [], bb] _ := d2
 replace b0 := b0.mono f1
 obtain ⟨ku, f2, d3, hD, kg⟩ := OS.frz b0 d2 (i := 2) rfl
 have d3 : HS _ _ _ [_, _, []] _ := d3
 replace ds := ds.mono f2
 refine ah ⟨.inr rfl, _, rfl, a0, a2, I1, a1, a3, O1, _, (fT (fT (fT (es) c3) f1) f2), (HS.forget d3), rfl, ds, hD, (by exact fun _ => bkf_of ez (cl (by assumption))), (by exact fun h => absurd (hv.symm.trans h) (by decide))⟩
end Go.Proofs.YtknafdcgpaejlaaDoor.mi
