/-
 Live registers: the reference solution of the equations, by a symbolic run. No condition but bounds on lengths.
-/
import Derived.Test.YtknafdcgpaejlaaDoorZGMH
noncomputable section
namespace Go.Proofs.YtknafdcgpaejlaaDoor.mi
open Go.R
set_option maxRecDepth 10000
set_option linter.unusedVariables false
set_option linter.unusedSimpArgs false
variable (ex : FuncId) {F : Fz} {H : Heap} {R : List Fp}
open m1 m2 m3 m4 m5 m6 ma ml mb mc md mf mg mh
abbrev cN (l : List (List Int)) (b : Nat) : List Int := l.getD b default
structure RSn (c : VFnT) (I O : List (List Int)) : Prop where
 li : I.length = c.blocks.length
 lo : O.length = c.blocks.length
 ai : ∀ b, Asc (cN I b)
 ao : ∀ b, Asc (cN O b)
 si : ∀ b, ∀ x ∈ cN I b, 0 ≤ x ∧ LIn c b x.toNat
 so : ∀ b, ∀ x ∈ cN O b, 0 ≤ x ∧ LOut c b x.toNat
 mo : ∀ b, b < c.blocks.length → ∀ r, oS (cN O b) r → outS c (fun t r => oS (cN I t) r) b r
 mi : ∀ b, b < c.blocks.length → ∀ r, oS (cN I b) r → inS (bQ c b) (oS (cN O b)) r
theorem rsn_zero {c : VFnT} {n : Nat} (h : n = c.blocks.length) : RSn c (List.replicate n []) (List.replicate n []) := by
 have e : ∀ b, cN (List.replicate n ([] : List Int)) b = [] := fun b => by
  unfold cN
  rw [a01, a1i]
  split <;> rfl
 have no : ∀ b r, ¬ oS (cN (List.replicate n ([] : List Int)) b) r := fun b r h => by rw [e] at h; cases h
 exact ⟨by simp [h], by simp [h], fun b => by rw [e]; exact List.Pairwise.nil, fun b => by rw [e]; exact List.Pairwise.nil, fun b x hx => by (rw [e] at hx; cases hx), fun b x hx => by (rw [e] at hx; cases hx), fun b _ r h => absurd h (no b r), fun b _ r h => absurd h (no b r)⟩
theorem cw {l : List (List Int)} {b b' : Nat} {x : List Int} (hb : b < l.length) : cN (l.set b x) b' = if b = b' then x else cN l b' := by
 unfold cN
 rw [d8]
 by_cases h : b = b'
 ·
  subst h; rw [if_pos ⟨rfl, hb⟩, if_pos rfl]
 rw [if_neg (fun e => h e.1), if_neg h]
theorem kH : ∀ {b a : List Int}, Asc a → Asc b → (∀ x ∈ a, x ∈ b) → a.Sublist b
 | [], [], _, _, _ => List.Sublist.refl _
 | [], x :: a, _, _, h => absurd (h x (a0A ..)) a0f
 | y :: b, [], _, _, _ => List.nil_sublist _
 | y :: b, x :: a, ha, hb, h => by
  have ha' := a1u.1 ha
  have hb' := a1u.1 hb
  by_cases e : x = y
  ·
   subst e
   refine List.Sublist.cons_cons _ (kH ha'.2 hb'.2 fun z hz => ?_)
   rcases a0r.1 (h z (a0j _ hz)) with e | e
   ·
    subst e; have := ha'.1 z hz; omega
   exact e
  have hx : x ∈ b := by
   rcases a0r.1 (h x (a0A ..)) with e' | e'
   ·
    exact absurd e' e
   exact e'
  have hyx := hb'.1 x hx
  refine List.Sublist.cons _ (kH ha hb'.2 fun z hz => ?_)
  rcases a0r.1 (h z hz) with e' | e'
  ·
   rcases a0r.1 hz with A | A
   ·
    exact absurd (A.symm.trans e') e
   have := ha'.1 z A; omega
  exact e'
theorem jU {a b : List Int} (ha : Asc a) (hb : Asc b) (h : ∀ x ∈ a, x ∈ b) (hl : b.length = a.length) : a = b := (kH ha hb h).eq_of_length hl.symm
theorem jf {a b : List Int} (ha : Asc a) (hb : Asc b) (h : ∀ x ∈ a, x ∈ b) : a.length ≤ b.length := (kH ha hb h).length_le
theorem Lst.ext {l : List Int} {S S' : Nat → Prop} (h : Lst l S) (hs : ∀ r, S r ↔ S' r) : Lst l S' := ⟨h.asc, fun x => by rw [h.mem, hs]⟩
def uS (c : VFnT) (I : List (List Int)) (b q r : Nat) : Prop := ∃ t ∈ (aW (bQ c b)).take q, oS (cN I t.toNat) r
theorem uS_zero {c : VFnT} {I : List (List Int)} {b : Nat} : Lst [] (uS c I b 0) := Lst.nil fun r ⟨t, h, _⟩ => by simp at h
theorem RSn.lstI {c : VFnT} {I O : List (List Int)} (h : RSn c I O) (b : Nat) : Lst (cN I b) (oS (cN I b)) := ⟨h.ai b, fun x => ⟨fun hx => ⟨(h.si b x hx).1, by unfold oS; rwa [a11 (h.si b x hx).1]⟩, fun hx => by have z := hx.2; unfold oS at z; rwa [a11 hx.1] at z⟩⟩
theorem uS_step {c : VFnT} {I O : List (List Int)} {b q : Nat} {o : List Int} (hs : RSn c I O) (hq : q < (aW (bQ c b)).length) (h : Lst o (uS c I b q)) : Lst (cR o (cN I ((aW (bQ c b)).getD q 0).toNat)) (uS c I b (q + 1)) := by
 refine Lst.ext (Lst.union h (hs.lstI _)) fun r => ?_
 unfold uS
 rw [bo hq (d := 0)]
 constructor
 ·
  rintro (⟨t, z, A⟩ | z)
  ·
   exact ⟨t, a09.2 (.inl z), A⟩
  exact ⟨_, a09.2 (.inr (a0e.2 rfl)), z⟩
 rintro ⟨t, z, A⟩
 rcases a09.1 z with z | z
 ·
  exact .inl ⟨t, z, A⟩
 rw [a0e] at z; subst z; exact .inr A
theorem uS_all {c : VFnT} {I : List (List Int)} {b q r : Nat} (hq : (aW (bQ c b)).length ≤ q) : uS c I b q r ↔ outS c (fun t r => oS (cN I t) r) b r := by
 unfold uS outS
 rw [a0h hq]
theorem uS_in {c : VFnT} {I O : List (List Int)} {b q r : Nat} (hs : RSn c I O) (h : uS c I b q r) : LOut c b r := by
 obtain ⟨t, z, A⟩ := h
 refine ⟨t, a0d z, ?_⟩
 have := hs.si _ _ A
 exact this.2
theorem uS_lt {c : VFnT} (v : VF c) {I O : List (List Int)} {b q r : Nat} (hs : RSn c I O) (h : uS c I b q r) : (r : Int) < c.regs := gx v (uS_in hs h)
theorem rpo_of {c : VFnT} (v : VF c) {I O : List (List Int)} {b q : Nat} {o : List Int} (hs : RSn c I O) (hb : b < c.blocks.length) (hl : (bQ c b).ins.length ≤ 1073741824) (ho : Lst o (uS c I b q)) : RpO (bQ c b) o c.regs := by
 refine ⟨v.regs, hl, fun i hi => bR (v.ins b hb i hi), fun x hx => ?_, ho.asc, fun x hx => ?_⟩
 ·
  unfold df at hx
  split at hx
  ·
   rename_i hf; rw [a0e] at hx; have := v.fin b hb hf; omega
  cases hx
 have z := (ho.mem x).1 hx
 have A := uS_lt v hs z.2
 omega
theorem rpo_out {c : VFnT} (v : VF c) {b : Nat} {o : List Int} (hb : b < c.blocks.length) (hl : (bQ c b).ins.length ≤ 1073741824) (ho : Lst o (LOut c b)) : RpO (bQ c b) o c.regs := by
 refine ⟨v.regs, hl, fun i hi => bR (v.ins b hb i hi), fun x hx => ?_, ho.asc, fun x hx => ?_⟩
 ·
  unfold df at hx
  split at hx
  ·
   rename_i hf; rw [a0e] at hx; have := v.fin b hb hf; omega
  cases hx
 have z := (ho.mem x).1 hx
 have A := gx v z.2
 omega
theorem iN {l : List Int} {S : Nat → Prop} (h : Lst l S) (r : Nat) : oS l r ↔ S r := by
 unfold oS
 rw [h.mem]
 exact ⟨fun h => by simpa using h.2, fun h => ⟨by omega, by simpa using h⟩⟩
structure Stp (c : VFnT) (I O : List (List Int)) (b : Nat) (o i : List Int) : Prop where
 lo : Lst o (outS c (fun t r => oS (cN I t) r) b)
 li : Lst i (inS (bQ c b) (oS o))
theorem stp_of {c : VFnT} {I O : List (List Int)} {b q : Nat} {o : List Int} {l : List (List Int)} (hq : (aW (bQ c b)).length ≤ q) (ho : Lst o (uS c I b q)) (hl : RpF (bQ c b) o l) : Stp c I O b o (cN l 0) :=
 ⟨Lst.ext ho fun r => uS_all hq, Lst.ext (hl.pt 0 (a0B _)) fun r => Iff.rfl⟩
theorem stp_sub {c : VFnT} {I O : List (List Int)} {b : Nat} {o i : List Int} (h : RSn c I O) (hb : b < c.blocks.length) (s : Stp c I O b o i) : (∀ x ∈ cN O b, x ∈ o) ∧ (∀ x ∈ cN I b, x ∈ i) := by
 have A : ∀ r, oS (cN O b) r → oS o r := fun r hr => (iN s.lo r).2 (h.mo b hb r hr)
 refine ⟨fun x hx => ?_, fun x hx => ?_⟩
 ·
  have z := (h.so b x hx).1
  have := A x.toNat (by unfold oS; rwa [a11 z])
  unfold oS at this; rwa [a11 z] at this
 have z := (h.si b x hx).1
 have := h.mi b hb x.toNat (by unfold oS; rwa [a11 z])
 exact (s.li.mem x).2 ⟨z, e9 A _ this⟩
theorem rsn_set {c : VFnT} {I O : List (List Int)} {b : Nat} {o i : List Int} (h : RSn c I O) (hb : b < c.blocks.length) (s : Stp c I O b o i) : RSn c (I.set b i) (O.set b o) := by
 obtain ⟨so, si⟩ := stp_sub h hb s
 have hbi : b < I.length := by rw [h.li]; exact hb
 have hbo : b < O.length := by rw [h.lo]; exact hb
 have mI : ∀ t r, oS (cN I t) r → oS (cN (I.set b i) t) r := fun t r hr => by
  rw [cw hbi]
  split
  ·
   rename_i e; subst e; exact si _ hr
  exact hr
 refine ⟨by rw [a0i]; exact h.li, by rw [a0i]; exact h.lo, fun b' => ?_, fun b' => ?_, fun b' x hx => ?_, fun b' x hx => ?_, fun b' hb' r hr => ?_, fun b' hb' r hr => ?_⟩
 ·
  rw [cw hbi]; split
  ·
   exact s.li.asc
  exact h.ai b'
 ·
  rw [cw hbo]; split
  ·
   exact s.lo.asc
  exact h.ao b'
 ·
  rw [cw hbi] at hx
  split at hx
  ·
   rename_i e; subst e
   obtain ⟨z, N⟩ := (s.li.mem x).1 hx
   refine ⟨z, LIn_clo c b hb _ (e9 (fun r hr => ?_) _ N)⟩
   obtain ⟨t, A, E⟩ := (iN s.lo r).1 hr
   have J := h.si _ _ E
   exact ⟨t, A, J.2⟩
  exact h.si b' x hx
 ·
  rw [cw hbo] at hx
  split at hx
  ·
   rename_i e; subst e
   obtain ⟨z, t, A, E⟩ := (s.lo.mem x).1 hx
   have J := h.si _ _ E
   exact ⟨z, t, A, J.2⟩
  exact h.so b' x hx
 ·
  rw [cw hbo] at hr
  split at hr
  ·
   rename_i e; subst e
   exact iL (fun t r => mI t r) _ _ ((iN s.lo r).1 hr)
  exact iL (fun t r => mI t r) _ _ (h.mo b' hb' r hr)
 rw [cw hbi] at hr
 rw [cw hbo]
 split at hr
 ·
  rename_i e; subst e
  rw [if_pos rfl]
  exact (iN s.li r).1 hr
 rename_i e
 rw [if_neg e]
 exact h.mi b' hb' r hr
def cntL (I : List (List Int)) : Nat := (I.map List.length).sum
theorem cntL_set {I : List (List Int)} {b : Nat} (hb : b < I.length) (s : List Int) : cntL (I.set b s) + (cN I b).length = cntL I + s.length := by
 unfold cntL cN
 rw [List.map_set]
 have := sum_set (I.map List.length) b s.length (by rw [a1q]; exact hb)
 rw [a01, a1b, a03 hb] at this
 rw [a01, a03 hb]
 exact this
theorem cntL_le {l : List (List Int)} {B : Nat} (h : ∀ b, (cN l b).length ≤ B) : cntL l ≤ l.length * B := by
 unfold cntL
 have key : ∀ (l : List (List Int)), (∀ s ∈ l, s.length ≤ B) → (l.map List.length).sum ≤ l.length * B := by
  intro l
  induction l with
  | nil => intro _; simp
  | cons s l ih =>
   intro h
   have z := ih fun x hx => h x (a0j _ hx)
   have A := h s (a0A ..)
   rw [List.map_cons, List.sum_cons, a0a, a1e]; omega
 refine key l fun s hs => ?_
 obtain ⟨b, hb, rfl⟩ := a0D.1 hs
 have := h b
 unfold cN at this
 rwa [a01, a03 hb] at this
def cnt2 (I O : List (List Int)) : Nat := cntL I + cntL O
theorem rsn_len {c : VFnT} (v : VF c) {I O : List (List Int)} (h : RSn c I O) (b : Nat) : ((cN I b).length : Int) ≤ c.regs ∧ ((cN O b).length : Int) ≤ c.regs := by
 have hr := v.regs
 constructor
 ·
  have := jg (m := c.regs) 0 hr.1 (h.ai b) fun x hx => by
   obtain ⟨z, A⟩ := h.si b x hx
   have := lin_lt v A
   exact ⟨z, by omega⟩
  omega
 have := jg (m := c.regs) 0 hr.1 (h.ao b) fun x hx => by
  obtain ⟨z, A⟩ := h.so b x hx
  have := gx v A
  exact ⟨z, by omega⟩
 omega
theorem cnt2_le {c : VFnT} (v : VF c) {I O : List (List Int)} (h : RSn c I O) : cnt2 I O ≤ c.blocks.length * 6000 := by
 have hr := v.regs
 have z := cntL_le (l := I) (B := 3000) fun b => by have := (rsn_len v h b).1; omega
 have A := cntL_le (l := O) (B := 3000) fun b => by have := (rsn_len v h b).2; omega
 rw [h.li] at z; rw [h.lo] at A
 unfold cnt2; omega
def CL (c : VFnT) (I O : List (List Int)) (b : Nat) : Prop := (∀ r, outS c (fun t r => oS (cN I t) r) b r → oS (cN O b) r) ∧ ∀ r, inS (bQ c b) (oS (cN O b)) r → oS (cN I b) r
theorem stp_same {c : VFnT} {I O : List (List Int)} {b : Nat} {o i : List Int} (h : RSn c I O) (hb : b < c.blocks.length) (s : Stp c I O b o i) (E : (o.length : Int) = ((cN O b).length : Int)) (J : (i.length : Int) = ((cN I b).length : Int)) : I.set b i = I ∧ O.set b o = O ∧ CL c I O b := by
 obtain ⟨so, si⟩ := stp_sub h hb s
 have z := jU (h.ao b) s.lo.asc so (by omega)
 have A := jU (h.ai b) s.li.asc si (by omega)
 refine ⟨by rw [← A]; exact eb _ _, by rw [← z]; exact eb _ _, fun r hr => ?_, fun r hr => ?_⟩
 ·
  rw [z]; exact (iN s.lo r).2 hr
 rw [z] at hr; rw [A]; exact (iN s.li r).2 hr
theorem stp_more {c : VFnT} {I O : List (List Int)} {b : Nat} {o i : List Int} (h : RSn c I O) (hb : b < c.blocks.length) (s : Stp c I O b o i) : cnt2 I O ≤ cnt2 (I.set b i) (O.set b o) ∧ (((o.length : Int) ≠ ((cN O b).length : Int) ∨ (i.length : Int) ≠ ((cN I b).length : Int)) → cnt2 I O < cnt2 (I.set b i) (O.set b o)) := by
 obtain ⟨so, si⟩ := stp_sub h hb s
 have z := jf (h.ao b) s.lo.asc so
 have A := jf (h.ai b) s.li.asc si
 have E := cntL_set (I := I) (b := b) (by rw [h.li]; exact hb) i
 have J := cntL_set (I := O) (b := b) (by rw [h.lo]; exact hb) o
 unfold cnt2
 exact ⟨by omega, fun h => by omega⟩
theorem mv {c : VFnT} {I O z A : List (List Int)} {b : Nat} {o i : List Int} {m2 m' : Bool} (h : RSn c I O) (hb : b < c.blocks.length) (s : Stp c I O b o i) (h0 : m2 = false → I = z ∧ O = A) (N : m2 = true → cnt2 z A < cnt2 I O)
  (e : m' = ((m2 || ((o.length : Int) != ((O.getD b default).length : Int))) || ((i.length : Int) != ((I.getD b default).length : Int)))) : (m' = false → I.set b i = z ∧ O.set b o = A) ∧ (m' = true → cnt2 z A < cnt2 (I.set b i) (O.set b o)) ∧ (m' = false → (m2 = false → ∀ b' : Nat, b < b' → b' < c.blocks.length → CL c I O b') → ∀ b' : Nat, b ≤ b' → b' < c.blocks.length → CL c (I.set b i) (O.set b o) b') := by
 have hm := stp_more h hb s
 have key : m' = false → m2 = false ∧ (o.length : Int) = ((cN O b).length : Int) ∧ (i.length : Int) = ((cN I b).length : Int) := fun hf => by
  rw [e] at hf
  simp only [Bool.or_eq_false_iff, bne_eq_false_iff_eq] at hf
  exact ⟨hf.1.1, hf.1.2, hf.2⟩
 refine ⟨fun hf => ?_, fun ht => ?_, fun hf hc b' V Y => ?_⟩
 ·
  obtain ⟨k1, k2, T⟩ := key hf
  obtain ⟨E, J, _⟩ := stp_same h hb s k2 T
  rw [E, J]; exact h0 k1
 ·
  rw [e] at ht
  simp only [a0O, bne_iff_ne] at ht
  rcases ht with (ht | ht) | ht
  ·
   have := N ht; omega
  ·
   have := hm.2 (.inl ht)
   cases m2 with
   | false => obtain ⟨rfl, rfl⟩ := h0 rfl; exact this
   | true => have := N rfl; omega
  have := hm.2 (.inr ht)
  cases m2 with
  | false => obtain ⟨rfl, rfl⟩ := h0 rfl; exact this
  | true => have := N rfl; omega
 obtain ⟨k1, k2, T⟩ := key hf
 obtain ⟨E, J, U⟩ := stp_same h hb s k2 T
 rw [E, J]
 rcases a1L V with e' | e'
 ·
  subst e'; exact U
 exact hc k1 b' e' Y
theorem bkf_of {c : VFnT} {I O : List (List Int)} (h : RSn c I O) (hc : ∀ b, b < c.blocks.length → CL c I O b) : BkF c I O := by
 have hclo : Clo c (fun b r => oS (cN I b) r) := fun b hb r hr => (hc b hb).2 r (e9 (fun q hq => (hc b hb).1 q hq) r hr)
 refine ⟨h.li, h.lo, fun b hb => ⟨h.ai b, fun x => ⟨h.si b x, fun hx => ?_⟩⟩, fun b hb => ⟨h.ao b, fun x => ⟨h.so b x, fun hx => ?_⟩⟩⟩
 ·
  have := hx.2 _ hclo
  unfold oS at this; rwa [a11 hx.1] at this
 obtain ⟨z, t, A, E⟩ := hx
 have := (hc b hb).1 x.toNat ⟨t, A, E _ hclo⟩
 unfold oS at this; rwa [a11 z] at this
theorem ptf_of {c : VFnT} {b : Nat} {o : List Int} {l : List (List Int)} (ho : Lst o (LOut c b)) (h : RpF (bQ c b) o l) : PtF c b l := by
 refine ⟨h.len, fun i hi => Lst.ext (h.pt i hi) fun r => ?_⟩
 unfold rpS ptS
 have e : ∀ r, oS o r ↔ LOut c b r := iN ho
 constructor
 ·
  exact j6 (fun q hq => hq.imp (e q).1 id) _ r
 exact j6 (fun q hq => hq.imp (e q).2 id) _ r
set_option maxHeartbeats 2000000 in
theorem rblocks_c {al : Option Addr} {ar : Nat} (c : VFnT) (hs : HS (.of H []) F H [] R) (i1 : in64 c.params) (i2 : in64 c.regs) (T : SR F (.slice al c.blocks.length ar) c.blocks) (hT : TB 37 tabC F) (hins : ∀ j, (c.blocks.getD j default).ins.length ≤ 1073741824) : kKt ex 32 [(.agg ⟨[(iI c.params), (iI c.regs), (.slice al c.blocks.length ar)]⟩)] H fun v H' => ∃ (ax : Option Addr) (kx : Nat) (x : List (List Int)) (ay : Option Addr) (ky : Nat) (y : List (List Int)) (F' : Fz), Fz.le F F' ∧ HS (.of H []) F' H' [] R ∧ v = .tuple ⟨[.slice ax x.length kx, .slice ay y.length ky]⟩ ∧ SR F' (.slice ax x.length kx) x ∧ SR F' (.slice ay y.length ky) y ∧ (cx c = true → BkF c x y) ∧ (cx c = false → x = [] ∧ y = []) := by
 refine aI Tryd.func32 rfl rfl (ah 1 rfl (aa (aH (bw hs rfl rfl) rfl rfl ?_)))
 rintro _ H2 _ ⟨b1, rfl, (f5 : HS _ _ _ [[(b1, .cells [(iI c.params), (iI c.regs), (.slice al c.blocks.length ar)] none false)]] _), _⟩
 let hp : Value := (.agg ⟨[(iI c.params), (iI c.regs), (.slice al c.blocks.length ar)]⟩)
 refine wTo 2 1 [] 2 3 [] [(2, (.slice none 0 0)), (3, (.slice none 0 0))] rfl fun _ => ae 3 rfl (aa (wUo 1 0 [(0, .o hp)] 12 12 [] [(12, hp)] (qn 24 0 3 (HS.hc f5 (i := 0) rfl) rfl rfl rfl rfl) rfl fun _ => az (ap rfl rfl rfl) rfl rfl (m3.hU ex c (HS.call f5) (by omega) (by omega) T hT (fun j => a0b (hins j) (by omega))) ?_))
 rintro _ H5 ⟨r5, F5, d4, ch, rfl, rfl⟩
 replace ch : HS _ _ _ [_] _ := HS.back f5 rfl ch
 replace hT := hT.mono d4
 replace T := T.mono d4
 refine wTo 1 2 [] 14 14 [] [(14, (.bool (!(cx c))))] rfl fun _ => ae 1 rfl (am 1 2 (v := (!(cx c))) rfl rfl rfl rfl (fun e3 => ?_) (fun e3 => ?_))
 ·
  have c7 := e3
  try simp only [BS] at c7
  have hv := c7
  refine wT 1 [] 2 3 [] [(2, (.slice none 0 0)), (3, (.slice none 0 0))] rfl fun _ => ak ⟨.inr rfl, _, rfl, none, 0, ([] : List (List Int)), none, 0, ([] : List (List Int)), _, (d4), (HS.forget ch), rfl, (SR.nil : SR F5 (.slice none 0 0) ([] : List (List Int))), (SR.nil : SR F5 (.slice none 0 0) ([] : List (List Int))), (fun h => absurd (h.symm.trans hv) (by decide)), (fun _ => ⟨rfl, rfl⟩)⟩
 have c7 := e3
 try simp only [BS] at c7
 have hv := c7
 have vF := iA hv
 have hnb := vF.nb
 have hrg := vF.regs
 refine aY rfl (wfv (v := (.pointer (some ⟨b1, 2, none⟩))) (dG rfl rfl) (aB (v := (.slice al c.blocks.length ar)) (id := .l b1) (bt (i := 2) rfl rfl (HS.hc ch.log0 (i := 0) rfl) rfl rfl) rfl rfl (bG rfl) (kb rfl) (aB (v := (iI (c.blocks.length : Int))) (id := .v) (jh (α := BlkT) rfl rfl (SR.sv T ch.log0)) rfl rfl (i5 rfl) (cO _) (cg (id := .x []) (dg ([] : (List Int)) ch.log0 rfl rfl rfl rfl rfl rfl rfl rfl rfl ⟨none, 0, rfl, SR.nil⟩ (by omega) (by omega)) rfl rfl (by rintro _ _ p9 ⟨a9, k9, rfl, hk, _, hwr⟩; exact cz rfl rfl (Wr.did hwr)) (kb rfl) ?_))))
 rintro _ hM p9 ⟨a9, k9, rfl, hk, a5, _⟩ hG g9
 replace a5 := HS.lg a5 ch g9
 generalize ({ hM with log := hG } : Heap) = ik at a5 ⊢
 have a5 : HS _ _ _ [_, p9] _ := a5
 refine wfv (v := (.pointer (some ⟨b1, 2, none⟩))) (dG rfl rfl) (aB (v := (.slice al c.blocks.length ar)) (id := .l b1) (bt (i := 2) rfl rfl (HS.hc a5.log0 (i := 0) rfl) rfl rfl) rfl rfl (bG rfl) (⟨.inl rfl, ⟨.inr a0f, ⟨.inr trivial, ⟨.inr trivial, ⟨.inr trivial, trivial⟩⟩⟩⟩⟩) (aB (v := (iI (c.blocks.length : Int))) (id := .v) (jh (α := BlkT) rfl rfl (SR.sv T a5.log0)) rfl rfl (i5 rfl) (cO _) (cg (id := .x []) (dg ([] : (List Int)) a5.log0 rfl rfl rfl rfl rfl rfl rfl rfl rfl ⟨none, 0, rfl, SR.nil⟩ (by omega) (by omega)) rfl rfl (by rintro _ _ g7 ⟨es, g4, rfl, f4, _, hwr⟩; exact cz rfl rfl (Wr.did hwr)) (⟨.inl rfl, ⟨.inl rfl, ⟨.inl rfl, ⟨.inr ⟨trivial, trivial⟩, ⟨.inr trivial, ⟨.inr a0f, ⟨.inr trivial, trivial⟩⟩⟩⟩⟩⟩⟩) ?_)))
 rintro _ hQ g7 ⟨es, g4, rfl, f4, b2, _⟩ hH ha
 replace b2 := HS.lg b2 a5 ha
 generalize ({ hQ with log := hH } : Heap) = il at b2 ⊢
 have b2 : HS _ _ _ [_, _, g7] _ := b2
 let g8 : Fp := [(b1, .cells [(iI c.params), (iI c.regs), (.slice al c.blocks.length ar)] none false)]
 refine fa (.slice a9 (List.replicate c.blocks.length ([] : (List Int))).length k9) rfl rfl rfl (fa (.slice es (List.replicate c.blocks.length ([] : (List Int))).length g4) rfl rfl rfl (cu (ah 3 rfl (wT 2 [] 1 0 [6] [(6, (.bool true))] rfl fun _ => aj (fun (mm : Nat) f H' => ∃ (mo : Bool) (I1 : List (List Int)) (O1 : List (List Int)) (av : Option Addr) (a1 : Nat) (b0 : Fp) (a0 : Option Addr) (a2 : Nat) (a8 : Fp) (F' : Fz), Fz.le F5 F' ∧ HS (Base.of H []) F' H' [g8, b0, a8] R ∧ OS F' (.slice av I1.length a1) I1 b0 ∧ OS F' (.slice a0 O1.length a2) O1 a8 ∧ aD f [(1, (.pointer (some ⟨b1, 0, none⟩))), (4, (.slice av I1.length a1)), (5, (.slice a0 O1.length a2)), (6, (.bool mo))] ∧ mm = mea mo (c.blocks.length * 6000) (cnt2 I1 O1) ∧ (RSn c I1 O1) ∧ (mo = false → ∀ b, b < c.blocks.length → CL c I1 O1 b)) _ ⟨true, List.replicate c.blocks.length ([] : (List Int)), List.replicate c.blocks.length ([] : (List Int)), a9, k9, p9, es, g4, g7, _, fR, b2, hk, f4, ⟨rfl, rfl, rfl, rfl, trivial⟩, rfl, (rsn_zero rfl), (by intro h; cases h)⟩ ?_))))
 rintro j2 kY kr ⟨mo, I1, O1, av, a1, b0, a0, a2, a8, hK, c3, ds, c6, bl, f1, rfl, em, cl⟩ hC
 refine au _ f1 (fun _ => ?_)
 clear f1
 replace hT := hT.mono c3
 replace T := T.mono c3
 have i3 := em.li
 have jb := em.lo
 refine ah 2 rfl (wT 1 [] 23 23 [] [(23, (.bool mo))] rfl fun _ => am 3 5 (v := mo) rfl rfl rfl rfl (fun c8 => ?_) (fun c8 => ?_))
 ·
  have d3 := c8
  try simp only [BS] at d3
  have hmo := d3
  refine wT 2 [] 1 0 [6] [(6, (.bool false))] rfl fun _ => wR 2 [(1, .o (.slice al c.blocks.length ar))] 24 27 [7] [(7, (iI ((c.blocks.length : Int) - 1)))] (vA (ql 22 2 (HS.hc ds (i := 0) rfl) rfl rfl) (vA (vi (n := (c.blocks.length : Int) - 1) (by omega)) trivial)) rfl fun _ => aj (fun (mm : Nat) f H' => ∃ (bz : Int) (m2 : Bool) (V : List (List Int)) (O2 : List (List Int)) (J : Option Addr) (N : Nat) (a3 : Fp) (z : Option Addr) (E : Nat) (a4 : Fp) (F' : Fz), Fz.le hK F' ∧ HS (Base.of H []) F' H' [g8, a3, a4] R ∧ OS F' (.slice J V.length N) V a3 ∧ OS F' (.slice z O2.length E) O2 a4 ∧ aD f [(1, (.pointer (some ⟨b1, 0, none⟩))), (4, (.slice J V.length N)), (5, (.slice z O2.length E)), (6, (.bool m2)), (7, (iI bz))] ∧ mm = (bz + 1).toNat ∧ (RSn c V O2) ∧ (-1 ≤ bz ∧ bz < (c.blocks.length : Int)) ∧ (m2 = false → V = I1 ∧ O2 = O1) ∧ (m2 = true → cnt2 I1 O1 < cnt2 V O2) ∧ (m2 = false → ∀ b : Nat, bz < (b : Int) → b < c.blocks.length → CL c V O2 b)) _ ⟨(c.blocks.length : Int) - 1, false, I1, O1, av, a1, b0, a0, a2, a8, _, fR, ds, c6, bl, ⟨rfl, rfl, rfl, rfl, rfl, trivial⟩, rfl, (em), (by omega), (fun _ => ⟨rfl, rfl⟩), (by intro h; cases h), (by intro _ b h1 h2; omega)⟩ ?_
  rintro kc kZ kz ⟨bz, m2, V, O2, J, N, a3, z, E, a4, kg, c4, b3, A, U, f2, rfl, bb, hbz, hV, hj, hcl⟩ hD
  refine au _ f2 (fun _ => ?_)
  clear f2
  replace hT := hT.mono c4
  replace T := T.mono c4
  have ja := bb.li
  have jc := bb.lo
  refine ah 2 rfl (wT 1 [] 28 29 [] [(29, (.bool (decide ((0 : Int) ≤ bz))))] rfl fun _ => am 4 5 (v := (decide ((0 : Int) ≤ bz))) rfl rfl rfl rfl (fun c9 => ?_) (fun c9 => ?_))
  ·
   have e0 := c9
   try simp only [BS] at e0
   have hbn : bz.toNat < c.blocks.length := by omega
   have hbl := hins bz.toNat
   refine wT 2 [] 1 0 [8] [(8, (.slice none 0 0))] rfl fun _ => aa ?_
   obtain ⟨e4, f7⟩ := Sv.view (SR.sv T b3)
   obtain ⟨h3, h4, h5, h6, hf⟩ := BlkT.fx (f7 bz.toNat)
   let hr : Value := (.agg ⟨[(.slice (cA (e4 bz.toNat) 0) (c.blocks.getD bz.toNat default).ins.length (cK (e4 bz.toNat) 0)), (iI (c.blocks.getD bz.toNat default).fin), (iI (c.blocks.getD bz.toNat default).reg), (iI (c.blocks.getD bz.toNat default).tgt), (iI (c.blocks.getD bz.toNat default).els)]⟩)
   refine wRo 5 0 [(1, .o (.slice al c.blocks.length ar)), (4, .o hr)] 32 36 [] [(36, hr)] (vA (ql 22 2 (HS.hc b3 (i := 0) rfl) rfl rfl) (vA (Sv.ix (j := bz) (SR.sv T b3) (by omega) (by omega)) (vA (qn 48 0 5 (BlkT.vw (f7 bz.toNat) (by omega)) rfl rfl rfl rfl) trivial))) rfl fun _ => az (ap rfl rfl rfl) rfl rfl (ma.rsucc_c ex (c.blocks.getD bz.toNat default) (HS.call b3) hf (by omega) (by omega) (by omega) (by omega) hT) ?_
   rintro _ kS ⟨et, g5, k4, hh, cc, dt, rfl, b9, rfl⟩
   replace dt : HS _ _ _ [_, a3, a4] _ := HS.back b3 rfl dt
   refine wa (.slice et (aW (c.blocks.getD bz.toNat default)).length g5) rfl rfl rfl (ae 3 rfl (wT 2 [] 1 0 [10] [(10, (iI 0))] rfl fun _ => aj (fun (mm : Nat) f H' => ∃ (o : List Int) (q : Nat) (Z : Option Addr) (ad : Nat) (F' : Fz), Fz.le hh F' ∧ HS (Base.of H []) F' H' [g8, a3, a4] R ∧ SR F' (.slice Z o.length ad) o ∧ aD f [(1, (.pointer (some ⟨b1, 0, none⟩))), (4, (.slice J V.length N)), (5, (.slice z O2.length E)), (6, (.bool m2)), (7, (iI bz)), (8, (.slice Z o.length ad)), (9, (.slice et (aW (c.blocks.getD bz.toNat default)).length g5)), (10, (iI (q : Int)))] ∧ mm = (aW (c.blocks.getD bz.toNat default)).length - q ∧ (Lst o (uS c V bz.toNat q)) ∧ (q ≤ (aW (c.blocks.getD bz.toNat default)).length)) _ ⟨([] : List Int), 0, none, 0, _, fR, dt, (SR.nil : SR hh (.slice none 0 0) ([] : List Int)), ⟨rfl, rfl, rfl, rfl, rfl, rfl, rfl, rfl, trivial⟩, rfl, (uS_zero), (by omega)⟩ ?_))
   rintro kd k0 kT ⟨o, q, Z, ad, ki, bk, Y, a7, f3, rfl, ho, hq⟩ hE
   refine au _ f3 (fun _ => ?_)
   clear f3
   replace hT := (hT.mono cc).mono bk
   replace T := (T.mono cc).mono bk
   replace b9 := b9.mono bk
   replace A := (A.mono cc).mono bk
   replace U := (U.mono cc).mono bk
   have j0 := succ_len (b := (c.blocks.getD bz.toNat default))
   refine ah 2 rfl (wT 1 [] 38 41 [] [(41, (.bool (decide ((q : Int) < ((aW (c.blocks.getD bz.toNat default)).length : Int)))))] rfl fun _ => am 3 5 (v := (decide ((q : Int) < ((aW (c.blocks.getD bz.toNat default)).length : Int)))) rfl rfl rfl rfl (fun dd => ?_) (fun dd => ?_))
   ·
    have e1 := dd
    try simp only [BS] at e1
    have hmem := mem_at (l := aW (c.blocks.getD bz.toNat default)) (q := q) (by omega)
    have hst := vF.succ bz.toNat hbn _ hmem
    have hul := Lst.len ho hrg.1 (fun r h => uS_lt vF bb h)
    have hil : ((V.getD ((aW (c.blocks.getD bz.toNat default)).getD q 0).toNat default).length : Int) ≤ c.regs := (rsn_len vF bb ((aW (c.blocks.getD bz.toNat default)).getD q 0).toNat).1
    refine aa ?_
    obtain ⟨iv, f8⟩ := Sv.view (SR.sv b9 Y)
    have k3 := fI (f8 q)
    obtain ⟨co, f9⟩ := Sv.view (OS.sv A Y (i := 1) rfl)
    have hX := fL (f9 ((aW (c.blocks.getD bz.toNat default)).getD q 0).toNat)
    refine wRo 8 0 [(5, .o (iI ((aW (c.blocks.getD bz.toNat default)).getD q 0))), (7, .o (.slice (cA (co ((aW (c.blocks.getD bz.toNat default)).getD q 0).toNat) 0) (V.getD ((aW (c.blocks.getD bz.toNat default)).getD q 0).toNat default).length (cK (co ((aW (c.blocks.getD bz.toNat default)).getD q 0).toNat) 0)))] 44 51 [] [(44, (.slice Z o.length ad)), (51, (.slice (cA (co ((aW (c.blocks.getD bz.toNat default)).getD q 0).toNat) 0) (V.getD ((aW (c.blocks.getD bz.toNat default)).getD q 0).toNat default).length (cK (co ((aW (c.blocks.getD bz.toNat default)).getD q 0).toNat) 0)))] (vA (Sv.ix (j := (q : Int)) (SR.sv b9 Y) (by omega) (by omega)) (vA (ql 3 0 (vI (f8 q) (by omega)) rfl rfl) (vA (Sv.ix (j := ((aW (c.blocks.getD bz.toNat default)).getD q 0)) (OS.sv A Y (i := 1) rfl) (by omega) (by omega)) (vA (ql 25 0 (vL (f9 ((aW (c.blocks.getD bz.toNat default)).getD q 0).toNat) (by omega)) rfl rfl) trivial)))) rfl fun _ => az (ap rfl rfl rfl) rfl rfl (ma.gn ex o (V.getD ((aW (c.blocks.getD bz.toNat default)).getD q 0).toNat default) (HS.call Y) a7 hX hT (by omega)) ?_
    rintro _ kU ⟨ez, g6, k5, kk, hz, dv, rfl, he, rfl⟩
    replace dv : HS _ _ _ [_, _, _] _ := HS.back Y rfl dv
    refine wa (.slice ez (cR o (V.getD ((aW (c.blocks.getD bz.toNat default)).getD q 0).toNat default)).length g6) rfl rfl rfl (ae 2 rfl (wU 1 [] 42 43 [10] [(10, (iI ((q : Int) + 1)))] (vi (n := (q : Int) + 1) (by omega)) rfl fun _ => hE _ _ _ ?_ ⟨cR o (V.getD ((aW (c.blocks.getD bz.toNat default)).getD q 0).toNat default), q + 1, ez, g6, _, (fT (bk) hz), dv, he, ⟨rfl, rfl, rfl, rfl, rfl, rfl, rfl, rfl, trivial⟩, rfl, (uS_step bb (show q < (aW (c.blocks.getD bz.toNat default)).length by omega) ho), (by omega)⟩))
    omega
   have e1 := dd
   try simp only [BS] at e1
   refine aa ?_
   obtain ⟨e5, go⟩ := Sv.view (SR.sv T Y)
   obtain ⟨h7, h8, h9, ib, hg⟩ := BlkT.fx (go bz.toNat)
   let ht : Value := (.agg ⟨[(.slice (cA (e5 bz.toNat) 0) (c.blocks.getD bz.toNat default).ins.length (cK (e5 bz.toNat) 0)), (iI (c.blocks.getD bz.toNat default).fin), (iI (c.blocks.getD bz.toNat default).reg), (iI (c.blocks.getD bz.toNat default).tgt), (iI (c.blocks.getD bz.toNat default).els)]⟩)
   refine wRo 6 0 [(1, .o (.slice al c.blocks.length ar)), (4, .o ht)] 53 58 [] [(57, ht), (58, (.slice Z o.length ad))] (vA (ql 22 2 (HS.hc Y (i := 0) rfl) rfl rfl) (vA (Sv.ix (j := bz) (SR.sv T Y) (by omega) (by omega)) (vA (qn 48 0 5 (BlkT.vw (go bz.toNat) (by omega)) rfl rfl rfl rfl) trivial))) rfl fun _ => az (ap rfl rfl rfl) rfl rfl (mh.rpoints_c ex (c.blocks.getD bz.toNat default) o (HS.call Y) hg (by omega) (by omega) (by omega) (by omega) a7 hT (⟨_, rpo_of vF bb hbn hbl ho⟩)) ?_
   rintro _ kV ⟨it, j1, b4, hW, kl, c5, an, rfl, ea, iz⟩
   replace an : HS _ _ _ [_, _, _, hW] _ := HS.back Y rfl an
   replace A := A.mono c5
   replace U := U.mono c5
   replace a7 := a7.mono c5
   obtain ⟨a6, g0⟩ := Sv.view (OS.sv ea an (i := 3) rfl)
   have hY := fL (g0 0)
   refine wRo 3 7 [(8, .o (.slice (cA (a6 0) 0) (b4.getD 0 default).length (cK (a6 0) 0)))] 60 61 [11] [(11, (.slice (cA (a6 0) 0) (b4.getD 0 default).length (cK (a6 0) 0)))] (vA (Sv.ix (j := 0) (OS.sv ea an (i := 3) rfl) (by decide) (by (have hq := RpF.len (by assumption); omega))) (vA (ql 25 0 (vL (g0 0) (by (have hq := RpF.len (by assumption); omega))) rfl rfl) trivial)) rfl fun _ => ae 2 rfl ?_
   obtain ⟨e6, g2⟩ := Sv.view (OS.sv U an (i := 2) rfl)
   have k6 := fL (g2 bz.toNat)
   obtain ⟨fd, g3⟩ := Sv.view (OS.sv A an (i := 1) rfl)
   have k7 := fL (g3 bz.toNat)
   refine wR 1 [(7, .o (.slice (cA (e6 bz.toNat) 0) (O2.getD bz.toNat default).length (cK (e6 bz.toNat) 0))), (17, .o (.slice (cA (fd bz.toNat) 0) (V.getD bz.toNat default).length (cK (fd bz.toNat) 0)))] 62 82 [6] [(6, (.bool ((m2 || ((o.length : Int) != ((O2.getD bz.toNat default).length : Int))) || (((b4.getD 0 default).length : Int) != ((V.getD bz.toNat default).length : Int)))))] (vA (fun (g1 : m2 = false) => (Sv.ix (j := bz) (OS.sv U an (i := 2) rfl) (by (try simp only [BS] at g1); (first | (dsimp only; omega) | omega | (have hq := RpF.len (by assumption); dsimp only at hq ⊢; omega) | (have hq := RpF.len (by assumption); omega))) (by (try simp only [BS] at g1); (first | (dsimp only; omega) | omega | (have hq := RpF.len (by assumption); dsimp only at hq ⊢; omega) | (have hq := RpF.len (by assumption); omega))))) (vA (fun (g1 : m2 = false) => (ql 25 0 (vL (g2 bz.toNat) (by (try simp only [BS] at g1); (first | (dsimp only; omega) | omega | (have hq := RpF.len (by assumption); dsimp only at hq ⊢; omega) | (have hq := RpF.len (by assumption); omega)))) rfl rfl)) (vA (fun (g1 : (m2 || ((o.length : Int) != ((O2.getD bz.toNat default).length : Int))) = false) => (Sv.ix (j := bz) (OS.sv A an (i := 1) rfl) (by (try simp only [BS] at g1); (first | (dsimp only; omega) | omega | (have hq := RpF.len (by assumption); dsimp only at hq ⊢; omega) | (have hq := RpF.len (by assumption); omega))) (by (try simp only [BS] at g1); (first | (dsimp only; omega) | omega | (have hq := RpF.len (by assumption); dsimp only at hq ⊢; omega) | (have hq := RpF.len (by assumption); omega))))) (vA (fun (g1 : (m2 || ((o.length : Int) != ((O2.getD bz.toNat default).length : Int))) = false) => (ql 25 0 (vL (g3 bz.toNat) (by (try simp only [BS] at g1); (first | (dsimp only; omega) | omega | (have hq := RpF.len (by assumption); dsimp only at hq ⊢; omega) | (have hq := RpF.len (by assumption); omega)))) rfl rfl)) trivial)))) rfl fun _ => aa (wUo 7 0 [] 83 89 [] [(85, (.slice z O2.length E)), (86, (iI bz)), (87, (.slice (cA (a6 0) 0) (b4.getD 0 default).length (cK (a6 0) 0))), (88, (.slice Z o.length ad)), (89, (.pointer (some ⟨sB (.slice J V.length N), sO (.slice J V.length N) + bz.toNat * Rp.sz (List Int), none⟩)))] (Sv.ix (j := bz) (OS.sv A an (i := 1) rfl) (by omega) (by omega)) rfl fun _ => aL (bY (α := (List Int)) (j := bz.toNat) (off := 0) (q := 1) (b4.getD 0 default) A an rfl rfl rfl rfl rfl rfl rfl rfl (aK (x := default) (by omega)) rfl (by rintro cs ⟨_, _, rfl, _⟩; exact ⟨a04 rfl, ⟨(cA (a6 0) 0), (cK (a6 0) 0), rfl, hY⟩⟩)) rfl ?_)
   rintro _ kW hl ⟨dk, (f6 : HS _ _ _ [_, hl, _, _] _), _⟩
   have ih := OS.len' dk
   refine wUo 1 8 [] 90 90 [] [(90, (.pointer (some ⟨sB (.slice z O2.length E), sO (.slice z O2.length E) + bz.toNat * Rp.sz (List Int), none⟩)))] (Sv.ix (j := bz) (OS.sv U f6 (i := 2) rfl) (by omega) (by omega)) rfl fun _ => aL (bY (α := (List Int)) (j := bz.toNat) (off := 0) (q := 2) o U f6 rfl rfl rfl rfl rfl rfl rfl rfl (aK (x := default) (by omega)) rfl (by rintro cs ⟨_, _, rfl, _⟩; exact ⟨a04 rfl, ⟨Z, ad, rfl, a7⟩⟩)) rfl ?_
   rintro _ kX hn ⟨dl, (hB : HS _ _ _ [_, _, hn, _] _), _⟩
   have ii := OS.len' dl
   refine ae 2 rfl (wU 1 [] 30 31 [7] [(7, (iI (bz - 1)))] (vi (n := bz - 1) (by omega)) rfl fun _ => ?_)
   have hst := stp_of (I := V) (O := O2) (show (aW (c.blocks.getD bz.toNat default)).length ≤ q by omega) ho (by assumption)
   have hmv := mv bb hbn hst hV hj rfl
   refine hD _ _ _ ?_ ⟨bz - 1, ((m2 || ((o.length : Int) != ((O2.getD bz.toNat default).length : Int))) || (((b4.getD 0 default).length : Int) != ((V.getD bz.toNat default).length : Int))), V.set bz.toNat (b4.getD 0 default), O2.set bz.toNat o, J, N, hl, z, E, hn, _, (fT (fT (fT (c4) cc) bk) c5), (HS.sub hB (a05 _ _)), (OS.norm dk), (OS.norm dl), (agC rfl (agC (show Value.slice J V.length N = Value.slice J (V.set bz.toNat (b4.getD 0 default)).length N by rw [OS.len' dk]) (agC (show Value.slice z O2.length E = Value.slice z (O2.set bz.toNat o).length E by rw [OS.len' dl]) ⟨rfl, rfl, trivial⟩))), rfl, (rsn_set bb hbn hst), (by omega), (hmv.1), (hmv.2.1), (fun h b h1 h2 => hmv.2.2 h (fun hm b h1 => hcl hm b (by omega)) b (by omega) h2)⟩
   omega
  have e0 := c9
  try simp only [BS] at e0
  refine hC _ _ _ ?_ ⟨m2, V, O2, J, N, a3, z, E, a4, _, (fT (c3) c4), b3, A, U, ⟨rfl, rfl, rfl, rfl, trivial⟩, rfl, (bb), (fun h b hb => hcl h b (by omega) hb)⟩
  rw [hmo]; exact mea_lt hj (cnt2_le vF bb)
 have d3 := c8
 try simp only [BS] at d3
 refine wT 1 [] 2 3 [91, 92] [(2, (.slice av I1.length a1)), (3, (.slice a0 O1.length a2))] rfl fun _ => ?_
 obtain ⟨kn, fi, d1, dn, jq⟩ := OS.frz c6 ds (i := 1) rfl
 have d1 : HS _ _ _ [_, [], a8] _ := d1
 replace bl := bl.mono fi
 obtain ⟨ko, f0, d2, hA, jw⟩ := OS.frz bl d1 (i := 2) rfl
 have d2 : HS _ _ _ [_, _, []] _ := d2
 replace dn := dn.mono f0
 refine ak ⟨.inr rfl, _, rfl, av, a1, I1, a0, a2, O1, _, (fT (fT (fT (d4) c3) fi) f0), (HS.forget d2), rfl, dn, hA, (fun _ => bkf_of em (cl (by assumption))), (fun h => absurd (hv.symm.trans h) (by decide))⟩
end Go.Proofs.YtknafdcgpaejlaaDoor.mi
