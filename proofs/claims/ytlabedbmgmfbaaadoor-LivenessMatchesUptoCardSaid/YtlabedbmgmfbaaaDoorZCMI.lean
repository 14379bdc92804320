/-
 Live registers: the reference solution of the equations, by a symbolic run. No condition but bounds on lengths.
-/
import Derived.Test.YtlabedbmgmfbaaaDoorZCMH
noncomputable section
namespace Go.Proofs.YtlabedbmgmfbaaaDoor.mi
open Go.R
set_option maxRecDepth 10000
set_option linter.unusedVariables false
open m1 m2 m3 m4 m5 m6 ma ml mb mc md mf mg mh
abbrev ee (l : List (List Int)) (b : Nat) : List Int := l.getD b default
structure RSn (c : VFnT) (I O : List (List Int)) : Prop where
 li : I.length = c.blocks.length
 lo : O.length = c.blocks.length
 ai : ∀ b, Asc (ee I b)
 ao : ∀ b, Asc (ee O b)
 si : ∀ b, ∀ x ∈ ee I b, 0 ≤ x ∧ LIn c b x.toNat
 so : ∀ b, ∀ x ∈ ee O b, 0 ≤ x ∧ LOut c b x.toNat
 mo : ∀ b, b < c.blocks.length → ∀ r, oS (ee O b) r → outS c (fun t r => oS (ee I t) r) b r
 mi : ∀ b, b < c.blocks.length → ∀ r, oS (ee I b) r → inS (cC c b) (oS (ee O b)) r
theorem rsn_zero {c : VFnT} {n : Nat} (h : n = c.blocks.length) : RSn c (List.replicate n []) (List.replicate n []) := by
 have e : ∀ b, ee (List.replicate n ([] : List Int)) b = [] := fun b => by
  unfold ee
  rw [List.getD_eq_getElem?_getD, List.getElem?_replicate]
  split <;> rfl
 have no : ∀ b r, ¬ oS (ee (List.replicate n ([] : List Int)) b) r := fun b r h => by rw [e] at h; cases h
 exact ⟨by simp [h], by simp [h], fun b => by rw [e]; exact List.Pairwise.nil, fun b => by rw [e]; exact List.Pairwise.nil, fun b x hx => by (rw [e] at hx; cases hx), fun b x hx => by (rw [e] at hx; cases hx), fun b _ r h => absurd h (no b r), fun b _ r h => absurd h (no b r)⟩
theorem eQ {l : List (List Int)} {b b' : Nat} {x : List Int} (hb : b < l.length) : ee (l.set b x) b' = if b = b' then x else ee l b' := by
 unfold ee
 rw [eM]
 by_cases h : b = b'
 ·
  subst h; rw [if_pos ⟨rfl, hb⟩, if_pos rfl]
 ·
  rw [if_neg (fun e => h e.1), if_neg h]
theorem ld : ∀ {b a : List Int}, Asc a → Asc b → (∀ x ∈ a, x ∈ b) → a.Sublist b
 | [], [], _, _, _ => List.Sublist.refl _
 | [], x :: a, _, _, h => absurd (h x (List.mem_cons_self ..)) List.not_mem_nil
 | y :: b, [], _, _, _ => List.nil_sublist _
 | y :: b, x :: a, ha, hb, h => by
  have ha' := List.pairwise_cons.1 ha
  have hb' := List.pairwise_cons.1 hb
  by_cases e : x = y
  ·
   subst e
   refine List.Sublist.cons_cons _ (ld ha'.2 hb'.2 fun z hz => ?_)
   rcases List.mem_cons.1 (h z (List.mem_cons_of_mem _ hz)) with e | e
   ·
    subst e; have := ha'.1 z hz; omega
   ·
    exact e
  ·
   have hx : x ∈ b := by
    rcases List.mem_cons.1 (h x (List.mem_cons_self ..)) with e' | e'
    ·
     exact absurd e' e
    ·
     exact e'
   have hyx := hb'.1 x hx
   refine List.Sublist.cons _ (ld ha hb'.2 fun z hz => ?_)
   rcases List.mem_cons.1 (h z hz) with e' | e'
   ·
    rcases List.mem_cons.1 hz with A | A
    ·
     exact absurd (A.symm.trans e') e
    ·
     have := ha'.1 z A; omega
   ·
    exact e'
theorem kj {a b : List Int} (ha : Asc a) (hb : Asc b) (h : ∀ x ∈ a, x ∈ b) (hl : b.length = a.length) : a = b := (ld ha hb h).eq_of_length hl.symm
theorem jy {a b : List Int} (ha : Asc a) (hb : Asc b) (h : ∀ x ∈ a, x ∈ b) : a.length ≤ b.length := (ld ha hb h).length_le
theorem Lst.ext {l : List Int} {S S' : Nat → Prop} (h : Lst l S) (hs : ∀ r, S r ↔ S' r) : Lst l S' := ⟨h.asc, fun x => by rw [h.mem, hs]⟩
def uS (c : VFnT) (I : List (List Int)) (b q r : Nat) : Prop := ∃ t ∈ (aT (cC c b)).take q, oS (ee I t.toNat) r
theorem uS_zero {c : VFnT} {I : List (List Int)} {b : Nat} : Lst [] (uS c I b 0) := Lst.nil fun r ⟨t, h, _⟩ => by simp at h
theorem RSn.lstI {c : VFnT} {I O : List (List Int)} (h : RSn c I O) (b : Nat) : Lst (ee I b) (oS (ee I b)) := ⟨h.ai b, fun x => ⟨fun hx => ⟨(h.si b x hx).1, by unfold oS; rwa [Int.toNat_of_nonneg (h.si b x hx).1]⟩, fun hx => by have z := hx.2; unfold oS at z; rwa [Int.toNat_of_nonneg hx.1] at z⟩⟩
theorem uS_step {c : VFnT} {I O : List (List Int)} {b q : Nat} {o : List Int} (hs : RSn c I O) (hq : q < (aT (cC c b)).length) (h : Lst o (uS c I b q)) : Lst (cH o (ee I ((aT (cC c b)).getD q 0).toNat)) (uS c I b (q + 1)) := by
 refine Lst.ext (Lst.union h (hs.lstI _)) fun r => ?_
 unfold uS
 rw [dV hq (d := 0)]
 constructor
 ·
  rintro (⟨t, z, A⟩ | z)
  ·
   exact ⟨t, List.mem_append.2 (.inl z), A⟩
  ·
   exact ⟨_, List.mem_append.2 (.inr (List.mem_singleton.2 rfl)), z⟩
 ·
  rintro ⟨t, z, A⟩
  rcases List.mem_append.1 z with z | z
  ·
   exact .inl ⟨t, z, A⟩
  ·
   rw [List.mem_singleton] at z; subst z; exact .inr A
theorem uS_all {c : VFnT} {I : List (List Int)} {b q r : Nat} (hq : (aT (cC c b)).length ≤ q) : uS c I b q r ↔ outS c (fun t r => oS (ee I t) r) b r := by
 unfold uS outS
 rw [List.take_of_length_le hq]
theorem uS_in {c : VFnT} {I O : List (List Int)} {b q r : Nat} (hs : RSn c I O) (h : uS c I b q r) : LOut c b r := by
 obtain ⟨t, z, A⟩ := h
 refine ⟨t, List.mem_of_mem_take z, ?_⟩
 have := hs.si _ _ A
 exact this.2
theorem uS_lt {c : VFnT} (v : VF c) {I O : List (List Int)} {b q r : Nat} (hs : RSn c I O) (h : uS c I b q r) : (r : Int) < c.regs := gL v (uS_in hs h)
theorem rpo_of {c : VFnT} (v : VF c) {I O : List (List Int)} {b q : Nat} {o : List Int} (hs : RSn c I O) (hb : b < c.blocks.length) (hl : (cC c b).ins.length ≤ 1073741824) (ho : Lst o (uS c I b q)) : RpO (cC c b) o c.regs := by
 refine ⟨v.regs, hl, fun i hi => cE (v.ins b hb i hi), fun x hx => ?_, ho.asc, fun x hx => ?_⟩
 ·
  unfold kQ at hx
  split at hx
  ·
   rename_i hf; rw [List.mem_singleton] at hx; have := v.fin b hb hf; omega
  ·
   cases hx
 ·
  have z := (ho.mem x).1 hx
  have A := uS_lt v hs z.2
  omega
theorem rpo_out {c : VFnT} (v : VF c) {b : Nat} {o : List Int} (hb : b < c.blocks.length) (hl : (cC c b).ins.length ≤ 1073741824) (ho : Lst o (LOut c b)) : RpO (cC c b) o c.regs := by
 refine ⟨v.regs, hl, fun i hi => cE (v.ins b hb i hi), fun x hx => ?_, ho.asc, fun x hx => ?_⟩
 ·
  unfold kQ at hx
  split at hx
  ·
   rename_i hf; rw [List.mem_singleton] at hx; have := v.fin b hb hf; omega
  ·
   cases hx
 ·
  have z := (ho.mem x).1 hx
  have A := gL v z.2
  omega
theorem jf {l : List Int} {S : Nat → Prop} (h : Lst l S) (r : Nat) : oS l r ↔ S r := by
 unfold oS
 rw [h.mem]
 exact ⟨fun h => by simpa using h.2, fun h => ⟨by omega, by simpa using h⟩⟩
structure Stp (c : VFnT) (I O : List (List Int)) (b : Nat) (o i : List Int) : Prop where
 lo : Lst o (outS c (fun t r => oS (ee I t) r) b)
 li : Lst i (inS (cC c b) (oS o))
theorem stp_of {c : VFnT} {I O : List (List Int)} {b q : Nat} {o : List Int} {l : List (List Int)} (hq : (aT (cC c b)).length ≤ q) (ho : Lst o (uS c I b q)) (hl : RpF (cC c b) o l) : Stp c I O b o (ee l 0) :=
 ⟨Lst.ext ho fun r => uS_all hq, Lst.ext (hl.pt 0 (Nat.zero_le _)) fun r => Iff.rfl⟩
theorem stp_sub {c : VFnT} {I O : List (List Int)} {b : Nat} {o i : List Int} (h : RSn c I O) (hb : b < c.blocks.length) (s : Stp c I O b o i) : (∀ x ∈ ee O b, x ∈ o) ∧ (∀ x ∈ ee I b, x ∈ i) := by
 have A : ∀ r, oS (ee O b) r → oS o r := fun r hr => (jf s.lo r).2 (h.mo b hb r hr)
 refine ⟨fun x hx => ?_, fun x hx => ?_⟩
 ·
  have z := (h.so b x hx).1
  have := A x.toNat (by unfold oS; rwa [Int.toNat_of_nonneg z])
  unfold oS at this; rwa [Int.toNat_of_nonneg z] at this
 ·
  have z := (h.si b x hx).1
  have := h.mi b hb x.toNat (by unfold oS; rwa [Int.toNat_of_nonneg z])
  exact (s.li.mem x).2 ⟨z, fq A _ this⟩
theorem rsn_set {c : VFnT} {I O : List (List Int)} {b : Nat} {o i : List Int} (h : RSn c I O) (hb : b < c.blocks.length) (s : Stp c I O b o i) : RSn c (I.set b i) (O.set b o) := by
 obtain ⟨so, si⟩ := stp_sub h hb s
 have hbi : b < I.length := by rw [h.li]; exact hb
 have hbo : b < O.length := by rw [h.lo]; exact hb
 have mI : ∀ t r, oS (ee I t) r → oS (ee (I.set b i) t) r := fun t r hr => by
  rw [eQ hbi]
  split
  ·
   rename_i e; subst e; exact si _ hr
  ·
   exact hr
 refine ⟨by rw [List.length_set]; exact h.li, by rw [List.length_set]; exact h.lo, fun b' => ?_, fun b' => ?_, fun b' x hx => ?_, fun b' x hx => ?_, fun b' hb' r hr => ?_, fun b' hb' r hr => ?_⟩
 ·
  rw [eQ hbi]; split
  ·
   exact s.li.asc
  ·
   exact h.ai b'
 ·
  rw [eQ hbo]; split
  ·
   exact s.lo.asc
  ·
   exact h.ao b'
 ·
  rw [eQ hbi] at hx
  split at hx
  ·
   rename_i e; subst e
   obtain ⟨z, N⟩ := (s.li.mem x).1 hx
   refine ⟨z, LIn_clo c b hb _ (fq (fun r hr => ?_) _ N)⟩
   obtain ⟨t, A, E⟩ := (jf s.lo r).1 hr
   have J := h.si _ _ E
   exact ⟨t, A, J.2⟩
  ·
   exact h.si b' x hx
 ·
  rw [eQ hbo] at hx
  split at hx
  ·
   rename_i e; subst e
   obtain ⟨z, t, A, E⟩ := (s.lo.mem x).1 hx
   have J := h.si _ _ E
   exact ⟨z, t, A, J.2⟩
  ·
   exact h.so b' x hx
 ·
  rw [eQ hbo] at hr
  split at hr
  ·
   rename_i e; subst e
   exact je (fun t r => mI t r) _ _ ((jf s.lo r).1 hr)
  ·
   exact je (fun t r => mI t r) _ _ (h.mo b' hb' r hr)
 ·
  rw [eQ hbi] at hr
  rw [eQ hbo]
  split at hr
  ·
   rename_i e; subst e
   rw [if_pos rfl]
   exact (jf s.li r).1 hr
  ·
   rename_i e
   rw [if_neg e]
   exact h.mi b' hb' r hr
def cntL (I : List (List Int)) : Nat := (I.map List.length).sum
theorem cntL_set {I : List (List Int)} {b : Nat} (hb : b < I.length) (s : List Int) : cntL (I.set b s) + (ee I b).length = cntL I + s.length := by
 unfold cntL ee
 rw [List.map_set]
 have := sum_set (I.map List.length) b s.length (by rw [List.length_map]; exact hb)
 rw [List.getD_eq_getElem?_getD, List.getElem?_map, List.getElem?_eq_getElem hb] at this
 rw [List.getD_eq_getElem?_getD, List.getElem?_eq_getElem hb]
 exact this
theorem cntL_le {l : List (List Int)} {B : Nat} (h : ∀ b, (ee l b).length ≤ B) : cntL l ≤ l.length * B := by
 unfold cntL
 have key : ∀ (l : List (List Int)), (∀ s ∈ l, s.length ≤ B) → (l.map List.length).sum ≤ l.length * B := by
  intro l
  induction l with
  | nil => intro _; simp
  | cons s l ih =>
   intro h
   have z := ih fun x hx => h x (List.mem_cons_of_mem _ hx)
   have A := h s (List.mem_cons_self ..)
   rw [List.map_cons, List.sum_cons, List.length_cons, Nat.succ_mul]; omega
 refine key l fun s hs => ?_
 obtain ⟨b, hb, rfl⟩ := List.mem_iff_getElem.1 hs
 have := h b
 unfold ee at this
 rwa [List.getD_eq_getElem?_getD, List.getElem?_eq_getElem hb] at this
def cnt2 (I O : List (List Int)) : Nat := cntL I + cntL O
theorem rsn_len {c : VFnT} (v : VF c) {I O : List (List Int)} (h : RSn c I O) (b : Nat) : ((ee I b).length : Int) ≤ c.regs ∧ ((ee O b).length : Int) ≤ c.regs := by
 have hr := v.regs
 constructor
 ·
  have := lf (m := c.regs) 0 hr.1 (h.ai b) fun x hx => by
   obtain ⟨z, A⟩ := h.si b x hx
   have := lin_lt v A
   exact ⟨z, by omega⟩
  omega
 ·
  have := lf (m := c.regs) 0 hr.1 (h.ao b) fun x hx => by
   obtain ⟨z, A⟩ := h.so b x hx
   have := gL v A
   exact ⟨z, by omega⟩
  omega
theorem cnt2_le {c : VFnT} (v : VF c) {I O : List (List Int)} (h : RSn c I O) : cnt2 I O ≤ c.blocks.length * 6000 := by
 have hr := v.regs
 have z := cntL_le (l := I) (B := 3000) fun b => by have := (rsn_len v h b).1; omega
 have A := cntL_le (l := O) (B := 3000) fun b => by have := (rsn_len v h b).2; omega
 rw [h.li] at z; rw [h.lo] at A
 unfold cnt2; omega
def CL (c : VFnT) (I O : List (List Int)) (b : Nat) : Prop := (∀ r, outS c (fun t r => oS (ee I t) r) b r → oS (ee O b) r) ∧ ∀ r, inS (cC c b) (oS (ee O b)) r → oS (ee I b) r
theorem stp_same {c : VFnT} {I O : List (List Int)} {b : Nat} {o i : List Int} (h : RSn c I O) (hb : b < c.blocks.length) (s : Stp c I O b o i) (E : (o.length : Int) = ((ee O b).length : Int)) (J : (i.length : Int) = ((ee I b).length : Int)) : I.set b i = I ∧ O.set b o = O ∧ CL c I O b := by
 obtain ⟨so, si⟩ := stp_sub h hb s
 have z := kj (h.ao b) s.lo.asc so (by omega)
 have A := kj (h.ai b) s.li.asc si (by omega)
 refine ⟨by rw [← A]; exact d7 _ _, by rw [← z]; exact d7 _ _, fun r hr => ?_, fun r hr => ?_⟩
 ·
  rw [z]; exact (jf s.lo r).2 hr
 ·
  rw [z] at hr; rw [A]; exact (jf s.li r).2 hr
theorem stp_more {c : VFnT} {I O : List (List Int)} {b : Nat} {o i : List Int} (h : RSn c I O) (hb : b < c.blocks.length) (s : Stp c I O b o i) : cnt2 I O ≤ cnt2 (I.set b i) (O.set b o) ∧ (((o.length : Int) ≠ ((ee O b).length : Int) ∨ (i.length : Int) ≠ ((ee I b).length : Int)) → cnt2 I O < cnt2 (I.set b i) (O.set b o)) := by
 obtain ⟨so, si⟩ := stp_sub h hb s
 have z := jy (h.ao b) s.lo.asc so
 have A := jy (h.ai b) s.li.asc si
 have E := cntL_set (I := I) (b := b) (by rw [h.li]; exact hb) i
 have J := cntL_set (I := O) (b := b) (by rw [h.lo]; exact hb) o
 unfold cnt2
 exact ⟨by omega, fun h => by omega⟩
theorem mv {c : VFnT} {I O z A : List (List Int)} {b : Nat} {o i : List Int} {m2 m' : Bool} (h : RSn c I O) (hb : b < c.blocks.length) (s : Stp c I O b o i) (h0 : m2 = false → I = z ∧ O = A) (N : m2 = true → cnt2 z A < cnt2 I O)
  (e : m' = ((m2 || ((o.length : Int) != ((O.getD b default).length : Int))) || ((i.length : Int) != ((I.getD b default).length : Int)))) : (m' = false → I.set b i = z ∧ O.set b o = A) ∧ (m' = true → cnt2 z A < cnt2 (I.set b i) (O.set b o)) ∧ (m' = false → (m2 = false → ∀ b' : Nat, b < b' → b' < c.blocks.length → CL c I O b') → ∀ b' : Nat, b ≤ b' → b' < c.blocks.length → CL c (I.set b i) (O.set b o) b') := by
 have hm := stp_more h hb s
 have key : m' = false → m2 = false ∧ (o.length : Int) = ((ee O b).length : Int) ∧ (i.length : Int) = ((ee I b).length : Int) := fun hf => by
  rw [e] at hf
  simp only [Bool.or_eq_false_iff, bne_eq_false_iff_eq] at hf
  exact ⟨hf.1.1, hf.1.2, hf.2⟩
 refine ⟨fun hf => ?_, fun ht => ?_, fun hf hc b' V Y => ?_⟩
 ·
  obtain ⟨k1, k2, T⟩ := key hf
  obtain ⟨E, J, _⟩ := stp_same h hb s k2 T
  rw [E, J]; exact h0 k1
 ·
  rw [e] at ht
  simp only [Bool.or_eq_true, bne_iff_ne] at ht
  rcases ht with (ht | ht) | ht
  ·
   have := N ht; omega
  ·
   have := hm.2 (.inl ht)
   cases m2 with
   | false => obtain ⟨rfl, rfl⟩ := h0 rfl; exact this
   | true => have := N rfl; omega
  ·
   have := hm.2 (.inr ht)
   cases m2 with
   | false => obtain ⟨rfl, rfl⟩ := h0 rfl; exact this
   | true => have := N rfl; omega
 ·
  obtain ⟨k1, k2, T⟩ := key hf
  obtain ⟨E, J, U⟩ := stp_same h hb s k2 T
  rw [E, J]
  rcases Nat.eq_or_lt_of_le V with e' | e'
  ·
   subst e'; exact U
  ·
   exact hc k1 b' e' Y
theorem bkf_of {c : VFnT} {I O : List (List Int)} (h : RSn c I O) (hc : ∀ b, b < c.blocks.length → CL c I O b) : BkF c I O := by
 have hclo : Clo c (fun b r => oS (ee I b) r) := fun b hb r hr => (hc b hb).2 r (fq (fun q hq => (hc b hb).1 q hq) r hr)
 refine ⟨h.li, h.lo, fun b hb => ⟨h.ai b, fun x => ⟨h.si b x, fun hx => ?_⟩⟩, fun b hb => ⟨h.ao b, fun x => ⟨h.so b x, fun hx => ?_⟩⟩⟩
 ·
  have := hx.2 _ hclo
  unfold oS at this; rwa [Int.toNat_of_nonneg hx.1] at this
 ·
  obtain ⟨z, t, A, E⟩ := hx
  have := (hc b hb).1 x.toNat ⟨t, A, E _ hclo⟩
  unfold oS at this; rwa [Int.toNat_of_nonneg z] at this
theorem ptf_of {c : VFnT} {b : Nat} {o : List Int} {l : List (List Int)} (ho : Lst o (LOut c b)) (h : RpF (cC c b) o l) : PtF c b l := by
 refine ⟨h.len, fun i hi => Lst.ext (h.pt i hi) fun r => ?_⟩
 unfold rpS ptS
 have e : ∀ r, oS o r ↔ LOut c b r := jf ho
 constructor
 ·
  exact kB (fun q hq => hq.imp (e q).1 id) _ r
 ·
  exact kB (fun q hq => hq.imp (e q).2 id) _ r
set_option maxHeartbeats 2000000 in
theorem rblocks_c (ex : FuncId) {a3 : Option Addr} {a5 : Nat} (c : VFnT) {F : Fz} {H : Heap} {R : List Fp} (hs : HS (.of H []) F H [] R) (il : in64 c.params) (it : in64 c.regs) (T : SR F (.slice a3 c.blocks.length a5) c.blocks) (hT : TB 37 tabC F) (hins : ∀ j, (c.blocks.getD j default).ins.length ≤ 1073741824) : C Tryd.prog 1 (KT 60 ex 37 tabC) 20 [(.agg ⟨[(iI c.params), (iI c.regs), (.slice a3 c.blocks.length a5)]⟩)] H fun v H' => ∃ (ax : Option Addr) (kx : Nat) (x : List (List Int)) (ay : Option Addr) (ky : Nat) (y : List (List Int)) (F' : Fz), Fz.le F F' ∧ HS (.of H []) F' H' [] R ∧ v = .tuple ⟨[.slice ax x.length kx, .slice ay y.length ky]⟩ ∧ SR F' (.slice ax x.length kx) x ∧ SR F' (.slice ay y.length ky) y ∧ (b8 c = true → BkF c x y) ∧ (b8 c = false → x = [] ∧ y = []) := by
 refine aG Tryd.func20 rfl rfl ?_
 refine aj 1 rfl ?_
 refine aa ?_
 refine aF (bB hs rfl rfl) rfl rfl ?_
 rintro _ H2 _ ⟨b1, rfl, c9, _⟩
 let et : Fp := [(b1, .cells [(iI c.params), (iI c.regs), (.slice a3 c.blocks.length a5)] none false)]
 have c9 : HS _ _ _ [et] _ := c9
 refine wRo 2 1 [] 2 3 [] [(2, (.slice none 0 0)), (3, (.slice none 0 0))] trivial rfl fun _ => ?_
 refine ae 3 rfl ?_
 refine aa ?_
 let hl : Value := (.agg ⟨[(iI c.params), (iI c.regs), (.slice a3 c.blocks.length a5)]⟩)
 refine wRo 1 0 [(0, .o hl)] 12 12 [] [(12, hl)] (vA (qn 24 0 3 (HS.hc c9 (i := 0) rfl) rfl rfl rfl rfl) trivial) rfl fun _ => ?_
 refine aA (ah rfl rfl rfl) rfl rfl (m3.kG ex c (HS.call c9) (by first | (dsimp only; omega) | omega | (have hq := RpF.len (by assumption); dsimp only at hq ⊢; omega) | (have hq := RpF.len (by assumption); omega)) (by first | (dsimp only; omega) | omega | (have hq := RpF.len (by assumption); dsimp only at hq ⊢; omega) | (have hq := RpF.len (by assumption); omega)) T hT (by exact fun j => Nat.le_trans (hins j) (by omega))) ?_
 rintro _ H5 ⟨r5, F5, em, bl, rfl, rfl⟩
 replace bl := HS.back c9 rfl bl
 have bl : HS _ _ _ [_] _ := bl
 replace hT := hT.mono em
 replace T := T.mono em
 refine wRo 1 2 [] 14 14 [] [(14, (.bool (!(b8 c))))] trivial rfl fun _ => ?_
 refine ae 1 rfl ?_
 refine ak 1 2 (v := (!(b8 c))) rfl rfl rfl rfl (fun c7 => ?_) (fun c7 => ?_)
 ·
  try simp only [BS] at c7
  have hv := c7
  refine wR 1 [] 2 3 [] [(2, (.slice none 0 0)), (3, (.slice none 0 0))] trivial rfl fun _ => ?_
  refine ag ⟨.inr rfl, _, rfl, none, 0, ([] : List (List Int)), none, 0, ([] : List (List Int)), _, (em), (HS.forget bl), rfl, (SR.nil : SR F5 (.slice none 0 0) ([] : List (List Int))), (SR.nil : SR F5 (.slice none 0 0) ([] : List (List Int))), (by first | exact fun h => absurd (h.symm.trans hv) (by decide) | exact fun _ => bkf_of dk (cl (by assumption))), (by first | exact fun _ => ⟨rfl, rfl⟩ | exact fun h => absurd (hv.symm.trans h) (by decide))⟩
 ·
  try simp only [BS] at c7
  have hv := c7
  have vF := jF hv
  have hnb := vF.nb
  have hrg := vF.regs
  refine bc rfl ?_
  refine am (v := (.pointer (some ⟨b1, 2, none⟩))) (id := .v) (dA rfl rfl) rfl rfl (br rfl) (be _) ?_
  refine am (v := (.slice a3 c.blocks.length a5)) (id := .l b1) (bN (i := 2) rfl rfl (HS.hc bl.log0 (i := 0) rfl) rfl rfl) rfl rfl (bT rfl) (⟨.inl rfl, trivial⟩) ?_
  refine am (v := (iI (c.blocks.length : Int))) (id := .v) (fZ (α := BlkT) rfl rfl (SR.sv T bl.log0)) rfl rfl (gP rfl) (be _) ?_
  refine dC (id := .x []) (fG ([] : (List Int)) bl.log0 rfl rfl rfl rfl rfl rfl rfl rfl rfl ⟨none, 0, rfl, SR.nil⟩ (by first | (dsimp only; omega) | omega | (have hq := RpF.len (by assumption); dsimp only at hq ⊢; omega) | (have hq := RpF.len (by assumption); omega)) (by first | (dsimp only; omega) | omega | (have hq := RpF.len (by assumption); dsimp only at hq ⊢; omega) | (have hq := RpF.len (by assumption); omega))) rfl rfl (by rintro _ _ p9 ⟨a9, k9, rfl, hh, _, hwr⟩; exact dP rfl rfl (Wr.did hwr)) (⟨.inl rfl, ⟨.inl rfl, ⟨.inl rfl, trivial⟩⟩⟩) ?_
  rintro _ hG p9 ⟨a9, k9, rfl, hh, a4, _⟩ hC g7
  replace a4 := HS.lg a4 bl g7
  generalize ({ hG with log := hC } : Heap) = h9 at a4 ⊢
  have a4 : HS _ _ _ [_, p9] _ := a4
  refine am (v := (.pointer (some ⟨b1, 2, none⟩))) (id := .v) (dA rfl rfl) rfl rfl (br rfl) (be _) ?_
  refine am (v := (.slice a3 c.blocks.length a5)) (id := .l b1) (bN (i := 2) rfl rfl (HS.hc a4.log0 (i := 0) rfl) rfl rfl) rfl rfl (bT rfl) (⟨.inl rfl, ⟨.inr List.not_mem_nil, ⟨.inr trivial, ⟨.inr trivial, ⟨.inr trivial, trivial⟩⟩⟩⟩⟩) ?_
  refine am (v := (iI (c.blocks.length : Int))) (id := .v) (fZ (α := BlkT) rfl rfl (SR.sv T a4.log0)) rfl rfl (gP rfl) (be _) ?_
  refine dC (id := .x []) (fG ([] : (List Int)) a4.log0 rfl rfl rfl rfl rfl rfl rfl rfl rfl ⟨none, 0, rfl, SR.nil⟩ (by first | (dsimp only; omega) | omega | (have hq := RpF.len (by assumption); dsimp only at hq ⊢; omega) | (have hq := RpF.len (by assumption); omega)) (by first | (dsimp only; omega) | omega | (have hq := RpF.len (by assumption); dsimp only at hq ⊢; omega) | (have hq := RpF.len (by assumption); omega))) rfl rfl (by rintro _ _ g5 ⟨ez, g3, rfl, f4, _, hwr⟩; exact dP rfl rfl (Wr.did hwr)) (⟨.inl rfl, ⟨.inl rfl, ⟨.inl rfl, ⟨.inr ⟨trivial, trivial⟩, ⟨.inr trivial, ⟨.inr List.not_mem_nil, ⟨.inr trivial, trivial⟩⟩⟩⟩⟩⟩⟩) ?_
  rintro _ hH g5 ⟨ez, g3, rfl, f4, b3, _⟩ hD g8
  replace b3 := HS.lg b3 a4 g8
  generalize ({ hH with log := hD } : Heap) = ib at b3 ⊢
  have b3 : HS _ _ _ [_, _, g5] _ := b3
  refine fa (.slice a9 (List.replicate c.blocks.length ([] : (List Int))).length k9) rfl rfl rfl ?_
  refine fa (.slice ez (List.replicate c.blocks.length ([] : (List Int))).length g3) rfl rfl rfl ?_
  refine cz ?_
  refine aj 3 rfl ?_
  refine wR 2 [] 1 0 [6] [(6, (.bool true))] trivial rfl fun _ => ?_
  refine ap (fun (mm : Nat) f H' => ∃ (mo : Bool) (I1 : List (List Int)) (O1 : List (List Int)) (ar : Option Addr) (aw : Nat) (b2 : Fp) (av : Option Addr) (a0 : Nat) (a8 : Fp) (F' : Fz), Fz.le F5 F' ∧ HS (Base.of H []) F' H' [et, b2, a8] R ∧ OS F' (.slice ar I1.length aw) I1 b2 ∧ OS F' (.slice av O1.length a0) O1 a8 ∧ aI f [(1, (.pointer (some ⟨b1, 0, none⟩))), (2, (.slice none 0 0)), (3, (.slice none 0 0)), (4, (.slice ar I1.length aw)), (5, (.slice av O1.length a0)), (6, (.bool mo))] ∧ mm = mea mo (c.blocks.length * 6000) (cnt2 I1 O1) ∧ (RSn c I1 O1) ∧ (mo = false → ∀ b, b < c.blocks.length → CL c I1 O1 b)) _ ⟨true, List.replicate c.blocks.length ([] : (List Int)), List.replicate c.blocks.length ([] : (List Int)), a9, k9, p9, ez, g3, g5, _, fR, b3, hh, f4, (agC rfl (agC rfl (agC rfl (agC rfl (agC rfl (agC rfl agN)))))), rfl, (by exact rsn_zero rfl), (by intro h; cases h)⟩ ?_
  rintro jq k5 kl ⟨mo, I1, O1, ar, aw, b2, av, a0, a8, hF, c3, dv, dd, b0, f1, rfl, dk, cl⟩ hw
  refine au _ f1 (fun _ => ?_)
  clear f1
  replace hT := hT.mono c3
  replace T := T.mono c3
  have iv := dk.li
  have i1 := dk.lo
  refine aj 2 rfl ?_
  refine wR 1 [] 23 23 [] [(23, (.bool mo))] trivial rfl fun _ => ?_
  refine ak 3 5 (v := mo) rfl rfl rfl rfl (fun ea => ?_) (fun ea => ?_)
  ·
   try simp only [BS] at ea
   have hmo := ea
   refine wR 2 [] 1 0 [6] [(6, (.bool false))] trivial rfl fun _ => ?_
   refine wR 2 [(1, .o (.slice a3 c.blocks.length a5))] 24 27 [7] [(7, (iI ((c.blocks.length : Int) - 1)))] (vA (ql 22 2 (HS.hc dv (i := 0) rfl) rfl rfl) (vA (vi (n := (c.blocks.length : Int) - 1) (by first | (dsimp only; omega) | omega | (have hq := RpF.len (by assumption); dsimp only at hq ⊢; omega) | (have hq := RpF.len (by assumption); omega))) trivial)) rfl fun _ => ?_
   refine ap (fun (mm : Nat) f H' => ∃ (bz : Int) (m2 : Bool) (V : List (List Int)) (O2 : List (List Int)) (J : Option Addr) (N : Nat) (a1 : Fp) (z : Option Addr) (E : Nat) (a2 : Fp) (F' : Fz), Fz.le hF F' ∧ HS (Base.of H []) F' H' [et, a1, a2] R ∧ OS F' (.slice J V.length N) V a1 ∧ OS F' (.slice z O2.length E) O2 a2 ∧ aI f [(1, (.pointer (some ⟨b1, 0, none⟩))), (2, (.slice none 0 0)), (3, (.slice none 0 0)), (4, (.slice J V.length N)), (5, (.slice z O2.length E)), (6, (.bool m2)), (7, (iI bz)), (23, (.bool mo))] ∧ mm = (bz + 1).toNat ∧ (RSn c V O2) ∧ (-1 ≤ bz ∧ bz < (c.blocks.length : Int)) ∧ (m2 = false → V = I1 ∧ O2 = O1) ∧ (m2 = true → cnt2 I1 O1 < cnt2 V O2) ∧ (m2 = false → ∀ b : Nat, bz < (b : Int) → b < c.blocks.length → CL c V O2 b)) _ ⟨(c.blocks.length : Int) - 1, false, I1, O1, ar, aw, b2, av, a0, a8, _, fR, dv, dd, b0, (agC rfl (agC rfl (agC rfl (agC rfl (agC rfl (agC rfl (agC rfl (agC rfl agN)))))))), rfl, (by exact dk), (by first | assumption | omega | (simp at *; omega)), (by exact fun _ => ⟨rfl, rfl⟩), (by intro h; cases h), (by intro _ b h1 h2; omega)⟩ ?_
   rintro jw k6 kn ⟨bz, m2, V, O2, J, N, a1, z, E, a2, j1, c4, b4, A, U, f2, rfl, bb, hbz, hM, hg, hcl⟩ hz
   refine au _ f2 (fun _ => ?_)
   clear f2
   replace hT := hT.mono c4
   replace T := T.mono c4
   have iz := bb.li
   have i2 := bb.lo
   refine aj 2 rfl ?_
   refine wR 1 [] 28 29 [] [(29, (.bool (decide ((0 : Int) ≤ bz))))] trivial rfl fun _ => ?_
   refine ak 4 5 (v := (decide ((0 : Int) ≤ bz))) rfl rfl rfl rfl (fun e1 => ?_) (fun e1 => ?_)
   ·
    try simp only [BS] at e1
    have hbn : bz.toNat < c.blocks.length := by omega
    have hbl := hins bz.toNat
    refine wR 2 [] 1 0 [8] [(8, (.slice none 0 0))] trivial rfl fun _ => ?_
    refine aa ?_
    obtain ⟨e4, f5⟩ := Sv.view (SR.sv T b4)
    obtain ⟨hV, hW, hX, hY, ha⟩ := BlkT.fx (f5 bz.toNat)
    let g6 : Value := (.agg ⟨[(.slice (cA (e4 bz.toNat) 0) (c.blocks.getD bz.toNat default).ins.length (cK (e4 bz.toNat) 0)), (iI (c.blocks.getD bz.toNat default).fin), (iI (c.blocks.getD bz.toNat default).reg), (iI (c.blocks.getD bz.toNat default).tgt), (iI (c.blocks.getD bz.toNat default).els)]⟩)
    refine wRo 5 0 [(1, .o (.slice a3 c.blocks.length a5)), (4, .o g6)] 32 36 [] [(36, g6)] (vA (ql 22 2 (HS.hc b4 (i := 0) rfl) rfl rfl) (vA (Sv.ix (j := bz) (SR.sv T b4) (by first | (dsimp only; omega) | omega | (have hq := RpF.len (by assumption); dsimp only at hq ⊢; omega) | (have hq := RpF.len (by assumption); omega)) (by first | (dsimp only; omega) | omega | (have hq := RpF.len (by assumption); dsimp only at hq ⊢; omega) | (have hq := RpF.len (by assumption); omega))) (vA (qn 42 0 5 (BlkT.vw (f5 bz.toNat) (by first | (dsimp only; omega) | omega | (have hq := RpF.len (by assumption); dsimp only at hq ⊢; omega) | (have hq := RpF.len (by assumption); omega))) rfl rfl rfl rfl) trivial))) rfl fun _ => ?_
    refine aA (ah rfl rfl rfl) rfl rfl (ma.rsucc_c ex (c.blocks.getD bz.toNat default) (HS.call b4) ha (by first | (dsimp only; omega) | omega | (have hq := RpF.len (by assumption); dsimp only at hq ⊢; omega) | (have hq := RpF.len (by assumption); omega)) (by first | (dsimp only; omega) | omega | (have hq := RpF.len (by assumption); dsimp only at hq ⊢; omega) | (have hq := RpF.len (by assumption); omega)) (by first | (dsimp only; omega) | omega | (have hq := RpF.len (by assumption); dsimp only at hq ⊢; omega) | (have hq := RpF.len (by assumption); omega)) (by first | (dsimp only; omega) | omega | (have hq := RpF.len (by assumption); dsimp only at hq ⊢; omega) | (have hq := RpF.len (by assumption); omega)) hT) ?_
    rintro _ kr ⟨dl, d4, la, hf, cc, ch, rfl, b9, rfl⟩
    replace ch := HS.back b4 rfl ch
    have ch : HS _ _ _ [_, a1, a2] _ := ch
    refine wa (.slice dl (aT (c.blocks.getD bz.toNat default)).length d4) rfl rfl rfl ?_
    refine ae 3 rfl ?_
    refine wR 2 [] 1 0 [10] [(10, (iI 0))] trivial rfl fun _ => ?_
    refine ap (fun (mm : Nat) f H' => ∃ (o : List Int) (q : Nat) (ad : Option Addr) (al : Nat) (F' : Fz), Fz.le hf F' ∧ HS (Base.of H []) F' H' [et, a1, a2] R ∧ SR F' (.slice ad o.length al) o ∧ aI f [(1, (.pointer (some ⟨b1, 0, none⟩))), (2, (.slice none 0 0)), (3, (.slice none 0 0)), (4, (.slice J V.length N)), (5, (.slice z O2.length E)), (6, (.bool m2)), (7, (iI bz)), (8, (.slice ad o.length al)), (9, (.slice dl (aT (c.blocks.getD bz.toNat default)).length d4)), (10, (iI (q : Int))), (23, (.bool mo)), (29, (.bool (decide ((0 : Int) ≤ bz)))), (36, g6), (37, (.slice dl (aT (c.blocks.getD bz.toNat default)).length d4))] ∧ mm = (aT (c.blocks.getD bz.toNat default)).length - q ∧ (Lst o (uS c V bz.toNat q)) ∧ (q ≤ (aT (c.blocks.getD bz.toNat default)).length)) _ ⟨([] : List Int), 0, none, 0, _, fR, ch, (SR.nil : SR hf (.slice none 0 0) ([] : List Int)), (agC rfl (agC rfl (agC rfl (agC rfl (agC rfl (agC rfl (agC rfl (agC rfl (agC rfl (agC rfl (agC rfl (agC rfl (agC rfl (agC rfl agN)))))))))))))), rfl, (by exact uS_zero), (by first | assumption | omega | (simp at *; omega))⟩ ?_
    rintro j0 k7 kt ⟨o, q, ad, al, j2, bk, Z, a7, f3, rfl, ho, hq⟩ hA
    refine au _ f3 (fun _ => ?_)
    clear f3
    replace hT := (hT.mono cc).mono bk
    replace T := (T.mono cc).mono bk
    replace b9 := b9.mono bk
    replace A := (A.mono cc).mono bk
    replace U := (U.mono cc).mono bk
    have jb := succ_len (b := (c.blocks.getD bz.toNat default))
    refine aj 2 rfl ?_
    refine wR 1 [] 38 41 [] [(41, (.bool (decide ((q : Int) < ((aT (c.blocks.getD bz.toNat default)).length : Int)))))] trivial rfl fun _ => ?_
    refine ak 3 5 (v := (decide ((q : Int) < ((aT (c.blocks.getD bz.toNat default)).length : Int)))) rfl rfl rfl rfl (fun e2 => ?_) (fun e2 => ?_)
    ·
     try simp only [BS] at e2
     have hmem := mem_at (l := aT (c.blocks.getD bz.toNat default)) (q := q) (by omega)
     have hst := vF.succ bz.toNat hbn _ hmem
     have hul := Lst.len ho hrg.1 (fun r h => uS_lt vF bb h)
     have hil : ((V.getD ((aT (c.blocks.getD bz.toNat default)).getD q 0).toNat default).length : Int) ≤ c.regs := (rsn_len vF bb ((aT (c.blocks.getD bz.toNat default)).getD q 0).toNat).1
     refine aa ?_
     obtain ⟨ii, f6⟩ := Sv.view (SR.sv b9 Z)
     have k8 := fI (f6 q)
     obtain ⟨co, f7⟩ := Sv.view (OS.sv A Z (i := 1) rfl)
     have hR := fL (f7 ((aT (c.blocks.getD bz.toNat default)).getD q 0).toNat)
     refine wRo 8 0 [(5, .o (iI ((aT (c.blocks.getD bz.toNat default)).getD q 0))), (7, .o (.slice (cA (co ((aT (c.blocks.getD bz.toNat default)).getD q 0).toNat) 0) (V.getD ((aT (c.blocks.getD bz.toNat default)).getD q 0).toNat default).length (cK (co ((aT (c.blocks.getD bz.toNat default)).getD q 0).toNat) 0)))] 44 51 [] [(44, (.slice ad o.length al)), (51, (.slice (cA (co ((aT (c.blocks.getD bz.toNat default)).getD q 0).toNat) 0) (V.getD ((aT (c.blocks.getD bz.toNat default)).getD q 0).toNat default).length (cK (co ((aT (c.blocks.getD bz.toNat default)).getD q 0).toNat) 0)))] (vA (Sv.ix (j := (q : Int)) (SR.sv b9 Z) (by first | (dsimp only; omega) | omega | (have hq := RpF.len (by assumption); dsimp only at hq ⊢; omega) | (have hq := RpF.len (by assumption); omega)) (by first | (dsimp only; omega) | omega | (have hq := RpF.len (by assumption); dsimp only at hq ⊢; omega) | (have hq := RpF.len (by assumption); omega))) (vA (ql 3 0 (vI (f6 q) (by first | (dsimp only; omega) | omega | (have hq := RpF.len (by assumption); dsimp only at hq ⊢; omega) | (have hq := RpF.len (by assumption); omega))) rfl rfl) (vA (Sv.ix (j := ((aT (c.blocks.getD bz.toNat default)).getD q 0)) (OS.sv A Z (i := 1) rfl) (by first | (dsimp only; omega) | omega | (have hq := RpF.len (by assumption); dsimp only at hq ⊢; omega) | (have hq := RpF.len (by assumption); omega)) (by first | (dsimp only; omega) | omega | (have hq := RpF.len (by assumption); dsimp only at hq ⊢; omega) | (have hq := RpF.len (by assumption); omega))) (vA (ql 25 0 (vL (f7 ((aT (c.blocks.getD bz.toNat default)).getD q 0).toNat) (by first | (dsimp only; omega) | omega | (have hq := RpF.len (by assumption); dsimp only at hq ⊢; omega) | (have hq := RpF.len (by assumption); omega))) rfl rfl) trivial)))) rfl fun _ => ?_
     refine aA (ah rfl rfl rfl) rfl rfl (ma.ev ex o (V.getD ((aT (c.blocks.getD bz.toNat default)).getD q 0).toNat default) (HS.call Z) a7 hR hT (by first | (dsimp only; omega) | omega | (have hq := RpF.len (by assumption); dsimp only at hq ⊢; omega) | (have hq := RpF.len (by assumption); omega))) ?_
     rintro _ kz ⟨e0, g4, lr, kc, ht, ci, rfl, g9, rfl⟩
     replace ci := HS.back Z rfl ci
     have ci : HS _ _ _ [_, _, _] _ := ci
     refine wa (.slice e0 (cH o (V.getD ((aT (c.blocks.getD bz.toNat default)).getD q 0).toNat default)).length g4) rfl rfl rfl ?_
     refine ae 2 rfl ?_
     refine wR 1 [] 42 43 [10] [(10, (iI ((q : Int) + 1)))] (vA (vi (n := (q : Int) + 1) (by first | (dsimp only; omega) | omega | (have hq := RpF.len (by assumption); dsimp only at hq ⊢; omega) | (have hq := RpF.len (by assumption); omega))) trivial) rfl fun _ => ?_
     refine hA _ _ _ ?_ ⟨cH o (V.getD ((aT (c.blocks.getD bz.toNat default)).getD q 0).toNat default), q + 1, e0, g4, _, (fT (bk) ht), ci, g9, (agC rfl (agC rfl (agC rfl (agC rfl (agC rfl (agC rfl (agC rfl (agC rfl (agC rfl (agC rfl (agC rfl (agC rfl (agC rfl (agC rfl agN)))))))))))))), rfl, (by exact uS_step bb (show q < (aT (c.blocks.getD bz.toNat default)).length by omega) ho), (by first | assumption | omega | (simp at *; omega))⟩
     omega
    ·
     try simp only [BS] at e2
     refine aa ?_
     obtain ⟨e5, f9⟩ := Sv.view (SR.sv T Z)
     obtain ⟨h3, h4, h5, h6, he⟩ := BlkT.fx (f9 bz.toNat)
     let hn : Value := (.agg ⟨[(.slice (cA (e5 bz.toNat) 0) (c.blocks.getD bz.toNat default).ins.length (cK (e5 bz.toNat) 0)), (iI (c.blocks.getD bz.toNat default).fin), (iI (c.blocks.getD bz.toNat default).reg), (iI (c.blocks.getD bz.toNat default).tgt), (iI (c.blocks.getD bz.toNat default).els)]⟩)
     refine wRo 6 0 [(1, .o (.slice a3 c.blocks.length a5)), (4, .o hn)] 53 58 [] [(57, hn), (58, (.slice ad o.length al))] (vA (ql 22 2 (HS.hc Z (i := 0) rfl) rfl rfl) (vA (Sv.ix (j := bz) (SR.sv T Z) (by first | (dsimp only; omega) | omega | (have hq := RpF.len (by assumption); dsimp only at hq ⊢; omega) | (have hq := RpF.len (by assumption); omega)) (by first | (dsimp only; omega) | omega | (have hq := RpF.len (by assumption); dsimp only at hq ⊢; omega) | (have hq := RpF.len (by assumption); omega))) (vA (qn 42 0 5 (BlkT.vw (f9 bz.toNat) (by first | (dsimp only; omega) | omega | (have hq := RpF.len (by assumption); dsimp only at hq ⊢; omega) | (have hq := RpF.len (by assumption); omega))) rfl rfl rfl rfl) trivial))) rfl fun _ => ?_
     refine aA (ah rfl rfl rfl) rfl rfl (mh.rpoints_c ex (c.blocks.getD bz.toNat default) o (HS.call Z) he (by first | (dsimp only; omega) | omega | (have hq := RpF.len (by assumption); dsimp only at hq ⊢; omega) | (have hq := RpF.len (by assumption); omega)) (by first | (dsimp only; omega) | omega | (have hq := RpF.len (by assumption); dsimp only at hq ⊢; omega) | (have hq := RpF.len (by assumption); omega)) (by first | (dsimp only; omega) | omega | (have hq := RpF.len (by assumption); dsimp only at hq ⊢; omega) | (have hq := RpF.len (by assumption); omega)) (by first | (dsimp only; omega) | omega | (have hq := RpF.len (by assumption); dsimp only at hq ⊢; omega) | (have hq := RpF.len (by assumption); omega)) a7 hT (by exact ⟨_, rpo_of vF bb hbn hbl ho⟩)) ?_
     rintro _ k0 ⟨ih, jc, b5, hQ, kd, c5, Y, rfl, es, ik⟩
     replace Y := HS.back Z rfl Y
     have Y : HS _ _ _ [_, _, _, hQ] _ := Y
     replace A := A.mono c5
     replace U := U.mono c5
     replace a7 := a7.mono c5
     obtain ⟨a6, go⟩ := Sv.view (OS.sv es Y (i := 3) rfl)
     have hS := fL (go 0)
     refine wRo 3 7 [(8, .o (.slice (cA (a6 0) 0) (b5.getD 0 default).length (cK (a6 0) 0)))] 60 61 [11] [(11, (.slice (cA (a6 0) 0) (b5.getD 0 default).length (cK (a6 0) 0)))] (vA (Sv.ix (j := 0) (OS.sv es Y (i := 3) rfl) (by decide) (by first | (dsimp only; omega) | omega | (have hq := RpF.len (by assumption); dsimp only at hq ⊢; omega) | (have hq := RpF.len (by assumption); omega))) (vA (ql 25 0 (vL (go 0) (by first | (dsimp only; omega) | omega | (have hq := RpF.len (by assumption); dsimp only at hq ⊢; omega) | (have hq := RpF.len (by assumption); omega))) rfl rfl) trivial)) rfl fun _ => ?_
     refine ae 2 rfl ?_
     obtain ⟨e6, g0⟩ := Sv.view (OS.sv U Y (i := 2) rfl)
     have lv := fL (g0 bz.toNat)
     obtain ⟨fd, g2⟩ := Sv.view (OS.sv A Y (i := 1) rfl)
     have lA := fL (g2 bz.toNat)
     refine wR 1 [(7, .o (.slice (cA (e6 bz.toNat) 0) (O2.getD bz.toNat default).length (cK (e6 bz.toNat) 0))), (17, .o (.slice (cA (fd bz.toNat) 0) (V.getD bz.toNat default).length (cK (fd bz.toNat) 0)))] 62 82 [6] [(6, (.bool ((m2 || ((o.length : Int) != ((O2.getD bz.toNat default).length : Int))) || (((b5.getD 0 default).length : Int) != ((V.getD bz.toNat default).length : Int)))))] (vA (fun (g1 : m2 = false) => (Sv.ix (j := bz) (OS.sv U Y (i := 2) rfl) (by (try simp only [BS] at g1); (first | (dsimp only; omega) | omega | (have hq := RpF.len (by assumption); dsimp only at hq ⊢; omega) | (have hq := RpF.len (by assumption); omega))) (by (try simp only [BS] at g1); (first | (dsimp only; omega) | omega | (have hq := RpF.len (by assumption); dsimp only at hq ⊢; omega) | (have hq := RpF.len (by assumption); omega))))) (vA (fun (g1 : m2 = false) => (ql 25 0 (vL (g0 bz.toNat) (by (try simp only [BS] at g1); (first | (dsimp only; omega) | omega | (have hq := RpF.len (by assumption); dsimp only at hq ⊢; omega) | (have hq := RpF.len (by assumption); omega)))) rfl rfl)) (vA (fun (g1 : (m2 || ((o.length : Int) != ((O2.getD bz.toNat default).length : Int))) = false) => (Sv.ix (j := bz) (OS.sv A Y (i := 1) rfl) (by (try simp only [BS] at g1); (first | (dsimp only; omega) | omega | (have hq := RpF.len (by assumption); dsimp only at hq ⊢; omega) | (have hq := RpF.len (by assumption); omega))) (by (try simp only [BS] at g1); (first | (dsimp only; omega) | omega | (have hq := RpF.len (by assumption); dsimp only at hq ⊢; omega) | (have hq := RpF.len (by assumption); omega))))) (vA (fun (g1 : (m2 || ((o.length : Int) != ((O2.getD bz.toNat default).length : Int))) = false) => (ql 25 0 (vL (g2 bz.toNat) (by (try simp only [BS] at g1); (first | (dsimp only; omega) | omega | (have hq := RpF.len (by assumption); dsimp only at hq ⊢; omega) | (have hq := RpF.len (by assumption); omega)))) rfl rfl)) trivial)))) rfl fun _ => ?_
     refine aa ?_
     refine wRo 7 0 [] 83 89 [] [(85, (.slice z O2.length E)), (86, (iI bz)), (87, (.slice (cA (a6 0) 0) (b5.getD 0 default).length (cK (a6 0) 0))), (88, (.slice ad o.length al)), (89, (.pointer (some ⟨sB (.slice J V.length N), sO (.slice J V.length N) + bz.toNat * Rp.sz (List Int), none⟩)))] (vA (Sv.ix (j := bz) (OS.sv A Y (i := 1) rfl) (by first | (dsimp only; omega) | omega | (have hq := RpF.len (by assumption); dsimp only at hq ⊢; omega) | (have hq := RpF.len (by assumption); omega)) (by first | (dsimp only; omega) | omega | (have hq := RpF.len (by assumption); dsimp only at hq ⊢; omega) | (have hq := RpF.len (by assumption); omega))) trivial) rfl fun _ => ?_
     refine aM (du (α := (List Int)) (j := bz.toNat) (off := 0) (q := 1) (b5.getD 0 default) A Y rfl rfl rfl rfl rfl rfl rfl rfl (aS (x := default) (by first | (dsimp only; omega) | omega | (have hq := RpF.len (by assumption); dsimp only at hq ⊢; omega) | (have hq := RpF.len (by assumption); omega))) rfl (by rintro cs ⟨_, _, rfl, _⟩; exact ⟨Nat.le_of_ble_eq_true rfl, ⟨(cA (a6 0) 0), (cK (a6 0) 0), rfl, hS⟩⟩)) rfl ?_
     rintro _ k3 hj ⟨dn, c6, _⟩
     have c6 : HS _ _ _ [_, hj, _, _] _ := c6
     have h7 := OS.len' dn
     refine wRo 1 8 [] 90 90 [] [(90, (.pointer (some ⟨sB (.slice z O2.length E), sO (.slice z O2.length E) + bz.toNat * Rp.sz (List Int), none⟩)))] (vA (Sv.ix (j := bz) (OS.sv U c6 (i := 2) rfl) (by first | (dsimp only; omega) | omega | (have hq := RpF.len (by assumption); dsimp only at hq ⊢; omega) | (have hq := RpF.len (by assumption); omega)) (by first | (dsimp only; omega) | omega | (have hq := RpF.len (by assumption); dsimp only at hq ⊢; omega) | (have hq := RpF.len (by assumption); omega))) trivial) rfl fun _ => ?_
     refine aM (du (α := (List Int)) (j := bz.toNat) (off := 0) (q := 2) o U c6 rfl rfl rfl rfl rfl rfl rfl rfl (aS (x := default) (by first | (dsimp only; omega) | omega | (have hq := RpF.len (by assumption); dsimp only at hq ⊢; omega) | (have hq := RpF.len (by assumption); omega))) rfl (by rintro cs ⟨_, _, rfl, _⟩; exact ⟨Nat.le_of_ble_eq_true rfl, ⟨ad, al, rfl, a7⟩⟩)) rfl ?_
     rintro _ k4 hk ⟨ds, d1, _⟩
     have d1 : HS _ _ _ [_, _, hk, _] _ := d1
     have h8 := OS.len' ds
     refine ae 2 rfl ?_
     refine wR 1 [] 30 31 [7] [(7, (iI (bz - 1)))] (vA (vi (n := bz - 1) (by first | (dsimp only; omega) | omega | (have hq := RpF.len (by assumption); dsimp only at hq ⊢; omega) | (have hq := RpF.len (by assumption); omega))) trivial) rfl fun _ => ?_
     have hst := stp_of (I := V) (O := O2) (show (aT (c.blocks.getD bz.toNat default)).length ≤ q by omega) ho (by assumption)
     have hmv := mv bb hbn hst hM hg rfl
     refine hz _ _ _ ?_ ⟨bz - 1, ((m2 || ((o.length : Int) != ((O2.getD bz.toNat default).length : Int))) || (((b5.getD 0 default).length : Int) != ((V.getD bz.toNat default).length : Int))), V.set bz.toNat (b5.getD 0 default), O2.set bz.toNat o, J, N, hj, z, E, hk, _, (fT (fT (fT (c4) cc) bk) c5), (HS.sub d1 (List.sublist_append_left _ _)), (OS.norm dn), (OS.norm ds), (agC rfl (agC rfl (agC rfl (agC (show Value.slice J V.length N = Value.slice J (V.set bz.toNat (b5.getD 0 default)).length N by rw [OS.len' dn]) (agC (show Value.slice z O2.length E = Value.slice z (O2.set bz.toNat o).length E by rw [OS.len' ds]) (agC rfl (agC rfl (agC rfl agN)))))))), rfl, (by exact rsn_set bb hbn hst), (by first | assumption | omega | (simp at *; omega)), (by exact hmv.1), (by exact hmv.2.1), (by exact fun h b h1 h2 => hmv.2.2 h (fun hm b h1 => hcl hm b (by omega)) b (by omega) h2)⟩
     omega
   ·
    try simp only [BS] at e1
    refine hw _ _ _ ?_ ⟨m2, V, O2, J, N, a1, z, E, a2, _, (fT (c3) c4), b4, A, U, (agC rfl (agC rfl (agC rfl (agC rfl (agC rfl (agC rfl agN)))))), rfl, (by exact bb), (by exact fun h b hb => hcl h b (by omega) hb)⟩
    rw [hmo]; exact mea_lt hg (cnt2_le vF bb)
  ·
   try simp only [BS] at ea
   refine wR 1 [] 2 3 [91, 92] [(2, (.slice ar I1.length aw)), (3, (.slice av O1.length a0))] trivial rfl fun _ => ?_
   obtain ⟨ki, fi, d2, dt, i3⟩ := OS.frz dd dv (i := 1) rfl
   have d2 : HS _ _ _ [_, [], a8] _ := d2
   replace b0 := b0.mono fi
   obtain ⟨kk, f0, d3, hu, ja⟩ := OS.frz b0 d2 (i := 2) rfl
   have d3 : HS _ _ _ [_, _, []] _ := d3
   replace dt := dt.mono f0
   refine ag ⟨.inr rfl, _, rfl, ar, aw, I1, av, a0, O1, _, (fT (fT (fT (em) c3) fi) f0), (HS.forget d3), rfl, dt, hu, (by first | exact fun h => absurd (h.symm.trans hv) (by decide) | exact fun _ => bkf_of dk (cl (by assumption))), (by first | exact fun _ => ⟨rfl, rfl⟩ | exact fun h => absurd (hv.symm.trans h) (by decide))⟩
end Go.Proofs.YtlabedbmgmfbaaaDoor.mi
