/-
 Live registers: the reference solution of the equations, by a symbolic run. No condition but bounds on lengths.
-/
import Derived.Test.YtknafdcgpaejlaaDoorZUMH
import Derived.Test.YtknafdcgpaejlaaDoorZURC
noncomputable section
namespace Go.Proofs.YtknafdcgpaejlaaDoor.mi
open Go.R
set_option maxRecDepth 10000
set_option linter.unusedVariables false
set_option linter.unusedSimpArgs false
variable (ex : FuncId) {F : Fz} {H : Heap} {R : List Fp}
open m1 m2 m3 m4 m5 m6 ma ml mb mc md mf mg mh
abbrev cN (l : List (List Int)) (b : Nat) : List Int := l.getD b default
structure RSn (c : VFnT) (I O : List (List Int)) : Prop where
 li : I.length = c.blocks.length
 lo : O.length = c.blocks.length
 ai : ∀ b, Asc (cN I b)
 ao : ∀ b, Asc (cN O b)
 si : ∀ b, ∀ x ∈ cN I b, 0 ≤ x ∧ LIn c b x.toNat
 so : ∀ b, ∀ x ∈ cN O b, 0 ≤ x ∧ LOut c b x.toNat
 mo : ∀ b, b < c.blocks.length → ∀ r, oS (cN O b) r → outS c (fun t r => oS (cN I t) r) b r
 mi : ∀ b, b < c.blocks.length → ∀ r, oS (cN I b) r → inS (bA c b) (oS (cN O b)) r
theorem rsn_zero {c : VFnT} {n : Nat} (h : n = c.blocks.length) : RSn c (List.replicate n []) (List.replicate n []) := by
 have e : ∀ b, cN (List.replicate n ([] : List Int)) b = [] := fun b => by
  unfold cN
  rw [a01, a1i]
  split <;> rfl
 have no : ∀ b r, ¬ oS (cN (List.replicate n ([] : List Int)) b) r := fun b r h => by rw [e] at h; cases h
 exact ⟨by simp [h], by simp [h], fun b => by rw [e]; exact List.Pairwise.nil, fun b => by rw [e]; exact List.Pairwise.nil, fun b x hx => by (rw [e] at hx; cases hx), fun b x hx => by (rw [e] at hx; cases hx), fun b _ r h => absurd h (no b r), fun b _ r h => absurd h (no b r)⟩
theorem cy {l : List (List Int)} {b b' : Nat} {x : List Int} (hb : b < l.length) : cN (l.set b x) b' = if b = b' then x else cN l b' := by
 unfold cN
 rw [df]
 by_cases h : b = b'
 ·
  subst h; rw [if_pos ⟨rfl, hb⟩, if_pos rfl]
 rw [if_neg (fun e => h e.1), if_neg h]
theorem kD : ∀ {b a : List Int}, Asc a → Asc b → (∀ x ∈ a, x ∈ b) → a.Sublist b
 | [], [], _, _, _ => List.Sublist.refl _
 | [], x :: a, _, _, h => absurd (h x (a0B ..)) a0i
 | y :: b, [], _, _, _ => List.nil_sublist _
 | y :: b, x :: a, ha, hb, h => by
  have ha' := List.pairwise_cons.1 ha
  have hb' := List.pairwise_cons.1 hb
  by_cases e : x = y
  ·
   subst e
   refine List.Sublist.cons_cons _ (kD ha'.2 hb'.2 fun z hz => ?_)
   rcases a0w.1 (h z (a0k _ hz)) with e | e
   ·
    subst e; have := ha'.1 z hz; omega
   exact e
  have hx : x ∈ b := by
   rcases a0w.1 (h x (a0B ..)) with e' | e'
   ·
    exact absurd e' e
   exact e'
  have hyx := hb'.1 x hx
  refine List.Sublist.cons _ (kD ha hb'.2 fun z hz => ?_)
  rcases a0w.1 (h z hz) with e' | e'
  ·
   rcases a0w.1 hz with A | A
   ·
    exact absurd (A.symm.trans e') e
   have := ha'.1 z A; omega
  exact e'
theorem jO {a b : List Int} (ha : Asc a) (hb : Asc b) (h : ∀ x ∈ a, x ∈ b) (hl : b.length = a.length) : a = b := (kD ha hb h).eq_of_length hl.symm
theorem i9 {a b : List Int} (ha : Asc a) (hb : Asc b) (h : ∀ x ∈ a, x ∈ b) : a.length ≤ b.length := (kD ha hb h).length_le
theorem Lst.ext {l : List Int} {S S' : Nat → Prop} (h : Lst l S) (hs : ∀ r, S r ↔ S' r) : Lst l S' := ⟨h.asc, fun x => by rw [h.mem, hs]⟩
def uS (c : VFnT) (I : List (List Int)) (b q r : Nat) : Prop := ∃ t ∈ (aY (bA c b)).take q, oS (cN I t.toNat) r
theorem uS_zero {c : VFnT} {I : List (List Int)} {b : Nat} : Lst [] (uS c I b 0) := Lst.nil fun r ⟨t, h, _⟩ => by simp at h
theorem RSn.lstI {c : VFnT} {I O : List (List Int)} (h : RSn c I O) (b : Nat) : Lst (cN I b) (oS (cN I b)) := ⟨h.ai b, fun x => ⟨fun hx => ⟨(h.si b x hx).1, by unfold oS; rwa [a10 (h.si b x hx).1]⟩, fun hx => by have A := hx.2; unfold oS at A; rwa [a10 hx.1] at A⟩⟩
theorem uS_step {c : VFnT} {I O : List (List Int)} {b q : Nat} {o : List Int} (hs : RSn c I O) (hq : q < (aY (bA c b)).length) (h : Lst o (uS c I b q)) : Lst (cS o (cN I ((aY (bA c b)).getD q 0).toNat)) (uS c I b (q + 1)) := by
 refine Lst.ext (Lst.union h (hs.lstI _)) fun r => ?_
 unfold uS
 rw [bj hq (d := 0)]
 constructor
 ·
  rintro (⟨t, A, E⟩ | A)
  ·
   exact ⟨t, a04.2 (.inl A), E⟩
  exact ⟨_, a04.2 (.inr (a0d.2 rfl)), A⟩
 rintro ⟨t, A, E⟩
 rcases a04.1 A with A | A
 ·
  exact .inl ⟨t, A, E⟩
 rw [a0d] at A; subst A; exact .inr E
theorem uS_all {c : VFnT} {I : List (List Int)} {b q r : Nat} (hq : (aY (bA c b)).length ≤ q) : uS c I b q r ↔ outS c (fun t r => oS (cN I t) r) b r := by
 unfold uS outS
 rw [a0f hq]
theorem uS_in {c : VFnT} {I O : List (List Int)} {b q r : Nat} (hs : RSn c I O) (h : uS c I b q r) : LOut c b r := by
 obtain ⟨t, A, E⟩ := h
 refine ⟨t, a17 A, ?_⟩
 have := hs.si _ _ E
 exact this.2
theorem uS_lt {c : VFnT} (v : VF c) {I O : List (List Int)} {b q r : Nat} (hs : RSn c I O) (h : uS c I b q r) : (r : Int) < c.regs := j7 v (uS_in hs h)
theorem rpo_of {c : VFnT} (v : VF c) {I O : List (List Int)} {b q : Nat} {o : List Int} (hs : RSn c I O) (hb : b < c.blocks.length) (hl : (bA c b).ins.length ≤ 1073741824) (ho : Lst o (uS c I b q)) : RpO (bA c b) o c.regs := by
 refine ⟨v.regs, hl, fun i hi => bV (v.ins b hb i hi), fun x hx => ?_, ho.asc, fun x hx => ?_⟩
 ·
  unfold gN at hx
  split at hx
  ·
   rename_i hf; rw [a0d] at hx; have := v.fin b hb hf; omega
  cases hx
 have A := (ho.mem x).1 hx
 have E := uS_lt v hs A.2
 omega
theorem js {l : List Int} {S : Nat → Prop} (h : Lst l S) (r : Nat) : oS l r ↔ S r := by
 unfold oS
 rw [h.mem]
 exact ⟨fun h => by simpa using h.2, fun h => ⟨by omega, by simpa using h⟩⟩
structure Stp (c : VFnT) (I O : List (List Int)) (b : Nat) (o i : List Int) : Prop where
 lo : Lst o (outS c (fun t r => oS (cN I t) r) b)
 li : Lst i (inS (bA c b) (oS o))
theorem stp_of {c : VFnT} {I O : List (List Int)} {b q : Nat} {o : List Int} {l : List (List Int)} (hq : (aY (bA c b)).length ≤ q) (ho : Lst o (uS c I b q)) (hl : RpF (bA c b) o l) : Stp c I O b o (cN l 0) :=
 ⟨Lst.ext ho fun r => uS_all hq, Lst.ext (hl.pt 0 (a0S _)) fun r => Iff.rfl⟩
theorem stp_sub {c : VFnT} {I O : List (List Int)} {b : Nat} {o i : List Int} (h : RSn c I O) (hb : b < c.blocks.length) (s : Stp c I O b o i) : (∀ x ∈ cN O b, x ∈ o) ∧ (∀ x ∈ cN I b, x ∈ i) := by
 have E : ∀ r, oS (cN O b) r → oS o r := fun r hr => (js s.lo r).2 (h.mo b hb r hr)
 refine ⟨fun x hx => ?_, fun x hx => ?_⟩
 ·
  have A := (h.so b x hx).1
  have := E x.toNat (by unfold oS; rwa [a10 A])
  unfold oS at this; rwa [a10 A] at this
 have A := (h.si b x hx).1
 have := h.mi b hb x.toNat (by unfold oS; rwa [a10 A])
 exact (s.li.mem x).2 ⟨A, eD E _ this⟩
theorem rsn_set {c : VFnT} {I O : List (List Int)} {b : Nat} {o i : List Int} (h : RSn c I O) (hb : b < c.blocks.length) (s : Stp c I O b o i) : RSn c (I.set b i) (O.set b o) := by
 obtain ⟨so, si⟩ := stp_sub h hb s
 have hbi : b < I.length := by rw [h.li]; exact hb
 have hbo : b < O.length := by rw [h.lo]; exact hb
 have mI : ∀ t r, oS (cN I t) r → oS (cN (I.set b i) t) r := fun t r hr => by
  rw [cy hbi]
  split
  ·
   rename_i e; subst e; exact si _ hr
  exact hr
 refine ⟨by rw [a0h]; exact h.li, by rw [a0h]; exact h.lo, fun b' => ?_, fun b' => ?_, fun b' x hx => ?_, fun b' x hx => ?_, fun b' hb' r hr => ?_, fun b' hb' r hr => ?_⟩
 ·
  rw [cy hbi]; split
  ·
   exact s.li.asc
  exact h.ai b'
 ·
  rw [cy hbo]; split
  ·
   exact s.lo.asc
  exact h.ao b'
 ·
  rw [cy hbi] at hx
  split at hx
  ·
   rename_i e; subst e
   obtain ⟨A, T⟩ := (s.li.mem x).1 hx
   refine ⟨A, kO c b hb _ (eD (fun r hr => ?_) _ T)⟩
   obtain ⟨t, E, J⟩ := (js s.lo r).1 hr
   have N := h.si _ _ J
   exact ⟨t, E, N.2⟩
  exact h.si b' x hx
 ·
  rw [cy hbo] at hx
  split at hx
  ·
   rename_i e; subst e
   obtain ⟨A, t, E, J⟩ := (s.lo.mem x).1 hx
   have N := h.si _ _ J
   exact ⟨A, t, E, N.2⟩
  exact h.so b' x hx
 ·
  rw [cy hbo] at hr
  split at hr
  ·
   rename_i e; subst e
   exact fV (fun t r => mI t r) _ _ ((js s.lo r).1 hr)
  exact fV (fun t r => mI t r) _ _ (h.mo b' hb' r hr)
 rw [cy hbi] at hr
 rw [cy hbo]
 split at hr
 ·
  rename_i e; subst e
  rw [if_pos rfl]
  exact (js s.li r).1 hr
 rename_i e
 rw [if_neg e]
 exact h.mi b' hb' r hr
def cntL (I : List (List Int)) : Nat := (I.map List.length).sum
theorem cntL_set {I : List (List Int)} {b : Nat} (hb : b < I.length) (s : List Int) : cntL (I.set b s) + (cN I b).length = cntL I + s.length := by
 unfold cntL cN
 rw [List.map_set]
 have := sum_set (I.map List.length) b s.length (by rw [a1z]; exact hb)
 rw [a01, a1j, a06 hb] at this
 rw [a01, a06 hb]
 exact this
theorem cntL_le {l : List (List Int)} {B : Nat} (h : ∀ b, (cN l b).length ≤ B) : cntL l ≤ l.length * B := by
 unfold cntL
 have key : ∀ (l : List (List Int)), (∀ s ∈ l, s.length ≤ B) → (l.map List.length).sum ≤ l.length * B := by
  intro l
  induction l with
  | nil => intro _; simp
  | cons s l ih =>
   intro h
   have A := ih fun x hx => h x (a0k _ hx)
   have E := h s (a0B ..)
   rw [List.map_cons, List.sum_cons, a0a, a1d]; omega
 refine key l fun s hs => ?_
 obtain ⟨b, hb, rfl⟩ := a0y.1 hs
 have := h b
 unfold cN at this
 rwa [a01, a06 hb] at this
def cnt2 (I O : List (List Int)) : Nat := cntL I + cntL O
theorem rsn_len {c : VFnT} (v : VF c) {I O : List (List Int)} (h : RSn c I O) (b : Nat) : ((cN I b).length : Int) ≤ c.regs ∧ ((cN O b).length : Int) ≤ c.regs := by
 have hr := v.regs
 constructor
 ·
  have := kE (m := c.regs) 0 hr.1 (h.ai b) fun x hx => by
   obtain ⟨A, E⟩ := h.si b x hx
   have := lin_lt v E
   exact ⟨A, by omega⟩
  omega
 have := kE (m := c.regs) 0 hr.1 (h.ao b) fun x hx => by
  obtain ⟨A, E⟩ := h.so b x hx
  have := j7 v E
  exact ⟨A, by omega⟩
 omega
theorem cnt2_le {c : VFnT} (v : VF c) {I O : List (List Int)} (h : RSn c I O) : cnt2 I O ≤ c.blocks.length * 6000 := by
 have hr := v.regs
 have A := cntL_le (l := I) (B := 3000) fun b => by have := (rsn_len v h b).1; omega
 have E := cntL_le (l := O) (B := 3000) fun b => by have := (rsn_len v h b).2; omega
 rw [h.li] at A; rw [h.lo] at E
 unfold cnt2; omega
def CL (c : VFnT) (I O : List (List Int)) (b : Nat) : Prop := (∀ r, outS c (fun t r => oS (cN I t) r) b r → oS (cN O b) r) ∧ ∀ r, inS (bA c b) (oS (cN O b)) r → oS (cN I b) r
theorem stp_same {c : VFnT} {I O : List (List Int)} {b : Nat} {o i : List Int} (h : RSn c I O) (hb : b < c.blocks.length) (s : Stp c I O b o i) (J : (o.length : Int) = ((cN O b).length : Int)) (N : (i.length : Int) = ((cN I b).length : Int)) : I.set b i = I ∧ O.set b o = O ∧ CL c I O b := by
 obtain ⟨so, si⟩ := stp_sub h hb s
 have A := jO (h.ao b) s.lo.asc so (by omega)
 have E := jO (h.ai b) s.li.asc si (by omega)
 refine ⟨by rw [← E]; exact d7 _ _, by rw [← A]; exact d7 _ _, fun r hr => ?_, fun r hr => ?_⟩
 ·
  rw [A]; exact (js s.lo r).2 hr
 rw [A] at hr; rw [E]; exact (js s.li r).2 hr
theorem stp_more {c : VFnT} {I O : List (List Int)} {b : Nat} {o i : List Int} (h : RSn c I O) (hb : b < c.blocks.length) (s : Stp c I O b o i) : cnt2 I O ≤ cnt2 (I.set b i) (O.set b o) ∧ (((o.length : Int) ≠ ((cN O b).length : Int) ∨ (i.length : Int) ≠ ((cN I b).length : Int)) → cnt2 I O < cnt2 (I.set b i) (O.set b o)) := by
 obtain ⟨so, si⟩ := stp_sub h hb s
 have A := i9 (h.ao b) s.lo.asc so
 have E := i9 (h.ai b) s.li.asc si
 have J := cntL_set (I := I) (b := b) (by rw [h.li]; exact hb) i
 have N := cntL_set (I := O) (b := b) (by rw [h.lo]; exact hb) o
 unfold cnt2
 exact ⟨by omega, fun h => by omega⟩
theorem mv {c : VFnT} {I O A E : List (List Int)} {b : Nat} {o i : List Int} {m2 m' : Bool} (h : RSn c I O) (hb : b < c.blocks.length) (s : Stp c I O b o i) (T : m2 = false → I = A ∧ O = E) (U : m2 = true → cnt2 A E < cnt2 I O)
  (e : m' = ((m2 || ((o.length : Int) != ((O.getD b default).length : Int))) || ((i.length : Int) != ((I.getD b default).length : Int)))) : (m' = false → I.set b i = A ∧ O.set b o = E) ∧ (m' = true → cnt2 A E < cnt2 (I.set b i) (O.set b o)) ∧ (m' = false → (m2 = false → ∀ b' : Nat, b < b' → b' < c.blocks.length → CL c I O b') → ∀ b' : Nat, b ≤ b' → b' < c.blocks.length → CL c (I.set b i) (O.set b o) b') := by
 have hm := stp_more h hb s
 have key : m' = false → m2 = false ∧ (o.length : Int) = ((cN O b).length : Int) ∧ (i.length : Int) = ((cN I b).length : Int) := fun hf => by
  rw [e] at hf
  simp only [Bool.or_eq_false_iff, bne_eq_false_iff_eq] at hf
  exact ⟨hf.1.1, hf.1.2, hf.2⟩
 refine ⟨fun hf => ?_, fun ht => ?_, fun hf hc b' h2 h3 => ?_⟩
 ·
  obtain ⟨k1, k2, V⟩ := key hf
  obtain ⟨J, N, _⟩ := stp_same h hb s k2 V
  rw [J, N]; exact T k1
 ·
  rw [e] at ht
  simp only [a0H, bne_iff_ne] at ht
  rcases ht with (ht | ht) | ht
  ·
   have := U ht; omega
  ·
   have := hm.2 (.inl ht)
   cases m2 with
   | false => obtain ⟨rfl, rfl⟩ := T rfl; exact this
   | true => have := U rfl; omega
  have := hm.2 (.inr ht)
  cases m2 with
  | false => obtain ⟨rfl, rfl⟩ := T rfl; exact this
  | true => have := U rfl; omega
 obtain ⟨k1, k2, V⟩ := key hf
 obtain ⟨J, N, Z⟩ := stp_same h hb s k2 V
 rw [J, N]
 rcases a1L h2 with e' | e'
 ·
  subst e'; exact Z
 exact hc k1 b' e' h3
theorem bkf_of {c : VFnT} {I O : List (List Int)} (h : RSn c I O) (hc : ∀ b, b < c.blocks.length → CL c I O b) : BkF c I O := by
 have hclo : Clo c (fun b r => oS (cN I b) r) := fun b hb r hr => (hc b hb).2 r (eD (fun q hq => (hc b hb).1 q hq) r hr)
 refine ⟨h.li, h.lo, fun b hb => ⟨h.ai b, fun x => ⟨h.si b x, fun hx => ?_⟩⟩, fun b hb => ⟨h.ao b, fun x => ⟨h.so b x, fun hx => ?_⟩⟩⟩
 ·
  have := hx.2 _ hclo
  unfold oS at this; rwa [a10 hx.1] at this
 obtain ⟨A, t, E, J⟩ := hx
 have := (hc b hb).1 x.toNat ⟨t, E, J _ hclo⟩
 unfold oS at this; rwa [a10 A] at this
set_option maxHeartbeats 2000000 in
theorem rblocks_c {ar : Option Addr} {aw : Nat} (c : VFnT) (hs : HS (.of H []) F H [] R) (i2 : in64 c.params) (i3 : in64 c.regs) (U : SR F (.slice ar c.blocks.length aw) c.blocks) (hT : TB 37 tabC F) (hins : ∀ j, (c.blocks.getD j default).ins.length ≤ 1073741824) : kKt ex 32 [(.agg ⟨[(iI c.params), (iI c.regs), (.slice ar c.blocks.length aw)]⟩)] H fun v H' => ∃ (ax : Option Addr) (kx : Nat) (x : List (List Int)) (ay : Option Addr) (ky : Nat) (y : List (List Int)) (F' : Fz), Fz.le F F' ∧ HS (.of H []) F' H' [] R ∧ v = .tuple ⟨[.slice ax x.length kx, .slice ay y.length ky]⟩ ∧ SR F' (.slice ax x.length kx) x ∧ SR F' (.slice ay y.length ky) y ∧ (d6 c = true → BkF c x y) ∧ (d6 c = false → x = [] ∧ y = []) := by
 refine aH Tryd.func32 rfl rfl (ah 1 rfl (aa (aG (bG hs rfl rfl) rfl rfl ?_)))
 rintro _ H2 _ ⟨b1, rfl, (f5 : HS _ _ _ [[(b1, .cells [(iI c.params), (iI c.regs), (.slice ar c.blocks.length aw)] none false)]] _), _⟩
 let hr : Value := (.agg ⟨[(iI c.params), (iI c.regs), (.slice ar c.blocks.length aw)]⟩)
 refine wTo 2 1 [] 2 3 [] [(2, (.slice none 0 0)), (3, (.slice none 0 0))] rfl fun _ => ae 3 rfl (aa (wUo 1 0 [(0, .o hr)] 12 12 [] [(12, hr)] (qn 24 0 3 (HS.hc f5 (i := 0) rfl) rfl rfl rfl rfl) rfl fun _ => aA (aq rfl rfl rfl) rfl rfl (m3.rvalid_c ex c (HS.call f5) (by omega) (by omega) U hT (by exact fun j => a0c (hins j) (by omega))) ?_))
 rintro _ H5 ⟨r5, F5, ea, cc, rfl, rfl⟩
 replace cc : HS _ _ _ [_] _ := HS.back f5 rfl cc
 replace hT := hT.mono ea
 replace U := U.mono ea
 refine wTo 1 2 [] 14 14 [] [(14, (.bool (!(d6 c))))] rfl fun _ => ae 1 rfl (am 1 2 (v := (!(d6 c))) rfl rfl rfl rfl (fun e4 => ?_) (fun e4 => ?_))
 ·
  have c7 := e4
  try simp only [BS] at c7
  have hv := c7
  refine wT 1 [] 2 3 [] [(2, (.slice none 0 0)), (3, (.slice none 0 0))] rfl fun _ => ak ⟨.inr rfl, _, rfl, none, 0, ([] : List (List Int)), none, 0, ([] : List (List Int)), _, (ea), (HS.forget cc), rfl, (SR.nil : SR F5 (.slice none 0 0) ([] : List (List Int))), (SR.nil : SR F5 (.slice none 0 0) ([] : List (List Int))), (by exact fun h => absurd (h.symm.trans hv) (by decide)), (by exact fun _ => ⟨rfl, rfl⟩)⟩
 have c7 := e4
 try simp only [BS] at c7
 have hv := c7
 have vF := iE hv
 have hnb := vF.nb
 have hrg := vF.regs
 refine aS rfl (wfv (v := (.pointer (some ⟨b1, 2, none⟩))) (bn rfl rfl) (aF (v := (.slice ar c.blocks.length aw)) (id := .l b1) (aU (i := 2) rfl rfl (HS.hc cc.log0 (i := 0) rfl) rfl rfl) rfl rfl (bx rfl) (kb rfl) (aF (v := (iI (c.blocks.length : Int))) (id := .v) (jd (α := BlkT) rfl rfl (SR.sv U cc.log0)) rfl rfl (i4 rfl) (j6 _) (bM (id := .x []) (cE ([] : (List Int)) cc.log0 rfl rfl rfl rfl rfl rfl rfl rfl rfl ⟨none, 0, rfl, SR.nil⟩ (by omega) (by omega)) rfl rfl (by rintro _ _ p9 ⟨a9, k9, rfl, hl, _, hwr⟩; exact bQ rfl rfl (Wr.did hwr)) (kb rfl) ?_))))
 rintro _ hQ p9 ⟨a9, k9, rfl, hl, a6, _⟩ hH ha
 replace a6 := HS.lg a6 cc ha
 generalize ({ hQ with log := hH } : Heap) = il at a6 ⊢
 have a6 : HS _ _ _ [_, p9] _ := a6
 refine wfv (v := (.pointer (some ⟨b1, 2, none⟩))) (bn rfl rfl) (aF (v := (.slice ar c.blocks.length aw)) (id := .l b1) (aU (i := 2) rfl rfl (HS.hc a6.log0 (i := 0) rfl) rfl rfl) rfl rfl (bx rfl) (⟨.inl rfl, ⟨.inr a0i, ⟨.inr trivial, ⟨.inr trivial, ⟨.inr trivial, trivial⟩⟩⟩⟩⟩) (aF (v := (iI (c.blocks.length : Int))) (id := .v) (jd (α := BlkT) rfl rfl (SR.sv U a6.log0)) rfl rfl (i4 rfl) (j6 _) (bM (id := .x []) (cE ([] : (List Int)) a6.log0 rfl rfl rfl rfl rfl rfl rfl rfl rfl ⟨none, 0, rfl, SR.nil⟩ (by omega) (by omega)) rfl rfl (by rintro _ _ g8 ⟨et, g5, rfl, f4, _, hwr⟩; exact bQ rfl rfl (Wr.did hwr)) (⟨.inl rfl, ⟨.inl rfl, ⟨.inl rfl, ⟨.inr ⟨trivial, trivial⟩, ⟨.inr trivial, ⟨.inr a0i, ⟨.inr trivial, trivial⟩⟩⟩⟩⟩⟩⟩) ?_)))
 rintro _ hR g8 ⟨et, g5, rfl, f4, b2, _⟩ hI he
 replace b2 := HS.lg b2 a6 he
 generalize ({ hR with log := hI } : Heap) = it at b2 ⊢
 have b2 : HS _ _ _ [_, _, g8] _ := b2
 let g9 : Fp := [(b1, .cells [(iI c.params), (iI c.regs), (.slice ar c.blocks.length aw)] none false)]
 refine fa (.slice a9 (List.replicate c.blocks.length ([] : (List Int))).length k9) rfl rfl rfl (fa (.slice et (List.replicate c.blocks.length ([] : (List Int))).length g5) rfl rfl rfl (bT (ah 3 rfl (wT 2 [] 1 0 [6] [(6, (.bool true))] rfl fun _ => aj (fun (mm : Nat) f H' => ∃ (mo : Bool) (I1 : List (List Int)) (O1 : List (List Int)) (a0 : Option Addr) (a2 : Nat) (b0 : Fp) (a1 : Option Addr) (a3 : Nat) (bb : Fp) (F' : Fz), Fz.le F5 F' ∧ HS (Base.of H []) F' H' [g9, b0, bb] R ∧ OS F' (.slice a0 I1.length a2) I1 b0 ∧ OS F' (.slice a1 O1.length a3) O1 bb ∧ aD f [(1, (.pointer (some ⟨b1, 0, none⟩))), (4, (.slice a0 I1.length a2)), (5, (.slice a1 O1.length a3)), (6, (.bool mo))] ∧ mm = mea mo (c.blocks.length * 6000) (cnt2 I1 O1) ∧ (RSn c I1 O1) ∧ (mo = false → ∀ b, b < c.blocks.length → CL c I1 O1 b)) _ ⟨true, List.replicate c.blocks.length ([] : (List Int)), List.replicate c.blocks.length ([] : (List Int)), a9, k9, p9, et, g5, g8, _, fR, b2, hl, f4, ⟨rfl, rfl, rfl, rfl, trivial⟩, rfl, (by exact rsn_zero rfl), (by intro h; cases h)⟩ ?_))))
 rintro ki kZ kR ⟨mo, I1, O1, a0, a2, b0, a1, a3, bb, hM, c0, dn, c5, bl, f1, rfl, es, cl⟩ hD
 refine ap _ f1 (fun _ => ?_)
 clear f1
 replace hT := hT.mono c0
 replace U := U.mono c0
 have ja := es.li
 have jc := es.lo
 refine ah 2 rfl (wT 1 [] 23 23 [] [(23, (.bool mo))] rfl fun _ => am 3 5 (v := mo) rfl rfl rfl rfl (fun c6 => ?_) (fun c6 => ?_))
 ·
  have d2 := c6
  try simp only [BS] at d2
  have hmo := d2
  refine wT 2 [] 1 0 [6] [(6, (.bool false))] rfl fun _ => wR 2 [(1, .o (.slice ar c.blocks.length aw))] 24 27 [7] [(7, (iI ((c.blocks.length : Int) - 1)))] (vA (ql 22 2 (HS.hc dn (i := 0) rfl) rfl rfl) (vA (vi (n := (c.blocks.length : Int) - 1) (by omega)) trivial)) rfl fun _ => aj (fun (mm : Nat) f H' => ∃ (bz : Int) (m2 : Bool) (Z : List (List Int)) (O2 : List (List Int)) (N : Option Addr) (T : Nat) (a4 : Fp) (A : Option Addr) (J : Nat) (a5 : Fp) (F' : Fz), Fz.le hM F' ∧ HS (Base.of H []) F' H' [g9, a4, a5] R ∧ OS F' (.slice N Z.length T) Z a4 ∧ OS F' (.slice A O2.length J) O2 a5 ∧ aD f [(1, (.pointer (some ⟨b1, 0, none⟩))), (4, (.slice N Z.length T)), (5, (.slice A O2.length J)), (6, (.bool m2)), (7, (iI bz))] ∧ mm = (bz + 1).toNat ∧ (RSn c Z O2) ∧ (-1 ≤ bz ∧ bz < (c.blocks.length : Int)) ∧ (m2 = false → Z = I1 ∧ O2 = O1) ∧ (m2 = true → cnt2 I1 O1 < cnt2 Z O2) ∧ (m2 = false → ∀ b : Nat, bz < (b : Int) → b < c.blocks.length → CL c Z O2 b)) _ ⟨(c.blocks.length : Int) - 1, false, I1, O1, a0, a2, b0, a1, a3, bb, _, fR, dn, c5, bl, ⟨rfl, rfl, rfl, rfl, rfl, trivial⟩, rfl, (by exact es), (by omega), (by exact fun _ => ⟨rfl, rfl⟩), (by intro h; cases h), (by intro _ b h1 h2; omega)⟩ ?_
  rintro kk k0 kS ⟨bz, m2, Z, O2, N, T, a4, A, J, a5, kn, c3, b3, E, V, f2, rfl, be, hbz, hW, hk, hcl⟩ hE
  refine ap _ f2 (fun _ => ?_)
  clear f2
  replace hT := hT.mono c3
  replace U := U.mono c3
  have jb := be.li
  have jq := be.lo
  refine ah 2 rfl (wT 1 [] 28 29 [] [(29, (.bool (decide ((0 : Int) ≤ bz))))] rfl fun _ => am 4 5 (v := (decide ((0 : Int) ≤ bz))) rfl rfl rfl rfl (fun c8 => ?_) (fun c8 => ?_))
  ·
   have e1 := c8
   try simp only [BS] at e1
   have hbn : bz.toNat < c.blocks.length := by omega
   have hbl := hins bz.toNat
   refine wT 2 [] 1 0 [8] [(8, (.slice none 0 0))] rfl fun _ => aa ?_
   obtain ⟨e5, f7⟩ := Sv.view (SR.sv U b3)
   obtain ⟨h3, h4, h5, h6, hg⟩ := BlkT.fx (f7 bz.toNat)
   let ht : Value := (.agg ⟨[(.slice (cA (e5 bz.toNat) 0) (c.blocks.getD bz.toNat default).ins.length (cK (e5 bz.toNat) 0)), (iI (c.blocks.getD bz.toNat default).fin), (iI (c.blocks.getD bz.toNat default).reg), (iI (c.blocks.getD bz.toNat default).tgt), (iI (c.blocks.getD bz.toNat default).els)]⟩)
   refine wRo 5 0 [(1, .o (.slice ar c.blocks.length aw)), (4, .o ht)] 32 36 [] [(36, ht)] (vA (ql 22 2 (HS.hc b3 (i := 0) rfl) rfl rfl) (vA (Sv.ix (j := bz) (SR.sv U b3) (by omega) (by omega)) (vA (qn 48 0 5 (BlkT.vw (f7 bz.toNat) (by omega)) rfl rfl rfl rfl) trivial))) rfl fun _ => aA (aq rfl rfl rfl) rfl rfl (ma.rsucc_c ex (c.blocks.getD bz.toNat default) (HS.call b3) hg (by omega) (by omega) (by omega) (by omega) hT) ?_
   rintro _ kT ⟨ez, g6, k5, hj, b9, ds, rfl, b7, rfl⟩
   replace ds : HS _ _ _ [_, a4, a5] _ := HS.back b3 rfl ds
   refine wa (.slice ez (aY (c.blocks.getD bz.toNat default)).length g6) rfl rfl rfl (ae 3 rfl (wT 2 [] 1 0 [10] [(10, (iI 0))] rfl fun _ => aj (fun (mm : Nat) f H' => ∃ (o : List Int) (q : Nat) (ag : Option Addr) (al : Nat) (F' : Fz), Fz.le hj F' ∧ HS (Base.of H []) F' H' [g9, a4, a5] R ∧ SR F' (.slice ag o.length al) o ∧ aD f [(1, (.pointer (some ⟨b1, 0, none⟩))), (4, (.slice N Z.length T)), (5, (.slice A O2.length J)), (6, (.bool m2)), (7, (iI bz)), (8, (.slice ag o.length al)), (9, (.slice ez (aY (c.blocks.getD bz.toNat default)).length g6)), (10, (iI (q : Int)))] ∧ mm = (aY (c.blocks.getD bz.toNat default)).length - q ∧ (Lst o (uS c Z bz.toNat q)) ∧ (q ≤ (aY (c.blocks.getD bz.toNat default)).length)) _ ⟨([] : List Int), 0, none, 0, _, fR, ds, (SR.nil : SR hj (.slice none 0 0) ([] : List Int)), ⟨rfl, rfl, rfl, rfl, rfl, rfl, rfl, rfl, trivial⟩, rfl, (by exact uS_zero), (by omega)⟩ ?_))
   rintro kl k3 kU ⟨o, q, ag, al, ko, bk, ad, a8, f3, rfl, ho, hq⟩ hF
   refine ap _ f3 (fun _ => ?_)
   clear f3
   replace hT := (hT.mono b9).mono bk
   replace U := (U.mono b9).mono bk
   replace b7 := b7.mono bk
   replace E := (E.mono b9).mono bk
   replace V := (V.mono b9).mono bk
   have kd := succ_len (b := (c.blocks.getD bz.toNat default))
   refine ah 2 rfl (wT 1 [] 38 41 [] [(41, (.bool (decide ((q : Int) < ((aY (c.blocks.getD bz.toNat default)).length : Int)))))] rfl fun _ => am 3 5 (v := (decide ((q : Int) < ((aY (c.blocks.getD bz.toNat default)).length : Int)))) rfl rfl rfl rfl (fun c9 => ?_) (fun c9 => ?_))
   ·
    have e2 := c9
    try simp only [BS] at e2
    have hmem := iS (l := aY (c.blocks.getD bz.toNat default)) (q := q) (by omega)
    have hst := vF.succ bz.toNat hbn _ hmem
    have hul := Lst.len ho hrg.1 (fun r h => uS_lt vF be h)
    have hil : ((Z.getD ((aY (c.blocks.getD bz.toNat default)).getD q 0).toNat default).length : Int) ≤ c.regs := (rsn_len vF be ((aY (c.blocks.getD bz.toNat default)).getD q 0).toNat).1
    refine aa ?_
    obtain ⟨iz, f8⟩ := Sv.view (SR.sv b7 ad)
    have k4 := fI (f8 q)
    obtain ⟨ci, f9⟩ := Sv.view (OS.sv E ad (i := 1) rfl)
    have hY := fL (f9 ((aY (c.blocks.getD bz.toNat default)).getD q 0).toNat)
    refine wRo 8 0 [(5, .o (iI ((aY (c.blocks.getD bz.toNat default)).getD q 0))), (7, .o (.slice (cA (ci ((aY (c.blocks.getD bz.toNat default)).getD q 0).toNat) 0) (Z.getD ((aY (c.blocks.getD bz.toNat default)).getD q 0).toNat default).length (cK (ci ((aY (c.blocks.getD bz.toNat default)).getD q 0).toNat) 0)))] 44 51 [] [(44, (.slice ag o.length al)), (51, (.slice (cA (ci ((aY (c.blocks.getD bz.toNat default)).getD q 0).toNat) 0) (Z.getD ((aY (c.blocks.getD bz.toNat default)).getD q 0).toNat default).length (cK (ci ((aY (c.blocks.getD bz.toNat default)).getD q 0).toNat) 0)))] (vA (Sv.ix (j := (q : Int)) (SR.sv b7 ad) (by omega) (by omega)) (vA (ql 3 0 (vI (f8 q) (by omega)) rfl rfl) (vA (Sv.ix (j := ((aY (c.blocks.getD bz.toNat default)).getD q 0)) (OS.sv E ad (i := 1) rfl) (by omega) (by omega)) (vA (ql 25 0 (vL (f9 ((aY (c.blocks.getD bz.toNat default)).getD q 0).toNat) (by omega)) rfl rfl) trivial)))) rfl fun _ => aA (aq rfl rfl rfl) rfl rfl (ma.fk ex o (Z.getD ((aY (c.blocks.getD bz.toNat default)).getD q 0).toNat default) (HS.call ad) a8 hY hT (by omega)) ?_
    rintro _ kV ⟨e0, g7, k6, kr, hA, dt, rfl, hf, rfl⟩
    replace dt : HS _ _ _ [_, _, _] _ := HS.back ad rfl dt
    refine wa (.slice e0 (cS o (Z.getD ((aY (c.blocks.getD bz.toNat default)).getD q 0).toNat default)).length g7) rfl rfl rfl (ae 2 rfl (wU 1 [] 42 43 [10] [(10, (iI ((q : Int) + 1)))] (vi (n := (q : Int) + 1) (by omega)) rfl fun _ => hF _ _ _ ?_ ⟨cS o (Z.getD ((aY (c.blocks.getD bz.toNat default)).getD q 0).toNat default), q + 1, e0, g7, _, (fT (bk) hA), dt, hf, ⟨rfl, rfl, rfl, rfl, rfl, rfl, rfl, rfl, trivial⟩, rfl, (by exact uS_step be (show q < (aY (c.blocks.getD bz.toNat default)).length by omega) ho), (by omega)⟩))
    omega
   have e2 := c9
   try simp only [BS] at e2
   refine aa ?_
   obtain ⟨e6, go⟩ := Sv.view (SR.sv U ad)
   obtain ⟨h7, h8, h9, ib, hh⟩ := BlkT.fx (go bz.toNat)
   let hu : Value := (.agg ⟨[(.slice (cA (e6 bz.toNat) 0) (c.blocks.getD bz.toNat default).ins.length (cK (e6 bz.toNat) 0)), (iI (c.blocks.getD bz.toNat default).fin), (iI (c.blocks.getD bz.toNat default).reg), (iI (c.blocks.getD bz.toNat default).tgt), (iI (c.blocks.getD bz.toNat default).els)]⟩)
   refine wRo 6 0 [(1, .o (.slice ar c.blocks.length aw)), (4, .o hu)] 53 58 [] [(57, hu), (58, (.slice ag o.length al))] (vA (ql 22 2 (HS.hc ad (i := 0) rfl) rfl rfl) (vA (Sv.ix (j := bz) (SR.sv U ad) (by omega) (by omega)) (vA (qn 48 0 5 (BlkT.vw (go bz.toNat) (by omega)) rfl rfl rfl rfl) trivial))) rfl fun _ => aA (aq rfl rfl rfl) rfl rfl (mh.rpoints_c ex (c.blocks.getD bz.toNat default) o (HS.call ad) hh (by omega) (by omega) (by omega) (by omega) a8 hT (by exact ⟨_, rpo_of vF be hbn hbl ho⟩)) ?_
   rintro _ kW ⟨iv, kg, b4, hX, kz, c4, av, rfl, em, i1⟩
   replace av : HS _ _ _ [_, _, _, hX] _ := HS.back ad rfl av
   replace E := E.mono c4
   replace V := V.mono c4
   replace a8 := a8.mono c4
   obtain ⟨a7, g2⟩ := Sv.view (OS.sv em av (i := 3) rfl)
   have h0 := fL (g2 0)
   refine wRo 3 7 [(8, .o (.slice (cA (a7 0) 0) (b4.getD 0 default).length (cK (a7 0) 0)))] 60 61 [11] [(11, (.slice (cA (a7 0) 0) (b4.getD 0 default).length (cK (a7 0) 0)))] (vA (Sv.ix (j := 0) (OS.sv em av (i := 3) rfl) (by decide) (by (have hq := RpF.len (by assumption); omega))) (vA (ql 25 0 (vL (g2 0) (by (have hq := RpF.len (by assumption); omega))) rfl rfl) trivial)) rfl fun _ => ae 2 rfl ?_
   obtain ⟨e9, g3⟩ := Sv.view (OS.sv V av (i := 2) rfl)
   have k7 := fL (g3 bz.toNat)
   obtain ⟨fd, g4⟩ := Sv.view (OS.sv E av (i := 1) rfl)
   have k8 := fL (g4 bz.toNat)
   refine wR 1 [(7, .o (.slice (cA (e9 bz.toNat) 0) (O2.getD bz.toNat default).length (cK (e9 bz.toNat) 0))), (17, .o (.slice (cA (fd bz.toNat) 0) (Z.getD bz.toNat default).length (cK (fd bz.toNat) 0)))] 62 82 [6] [(6, (.bool ((m2 || ((o.length : Int) != ((O2.getD bz.toNat default).length : Int))) || (((b4.getD 0 default).length : Int) != ((Z.getD bz.toNat default).length : Int)))))] (vA (fun (g1 : m2 = false) => (Sv.ix (j := bz) (OS.sv V av (i := 2) rfl) (by (try simp only [BS] at g1); (first | (dsimp only; omega) | omega | (have hq := RpF.len (by assumption); dsimp only at hq ⊢; omega) | (have hq := RpF.len (by assumption); omega))) (by (try simp only [BS] at g1); (first | (dsimp only; omega) | omega | (have hq := RpF.len (by assumption); dsimp only at hq ⊢; omega) | (have hq := RpF.len (by assumption); omega))))) (vA (fun (g1 : m2 = false) => (ql 25 0 (vL (g3 bz.toNat) (by (try simp only [BS] at g1); (first | (dsimp only; omega) | omega | (have hq := RpF.len (by assumption); dsimp only at hq ⊢; omega) | (have hq := RpF.len (by assumption); omega)))) rfl rfl)) (vA (fun (g1 : (m2 || ((o.length : Int) != ((O2.getD bz.toNat default).length : Int))) = false) => (Sv.ix (j := bz) (OS.sv E av (i := 1) rfl) (by (try simp only [BS] at g1); (first | (dsimp only; omega) | omega | (have hq := RpF.len (by assumption); dsimp only at hq ⊢; omega) | (have hq := RpF.len (by assumption); omega))) (by (try simp only [BS] at g1); (first | (dsimp only; omega) | omega | (have hq := RpF.len (by assumption); dsimp only at hq ⊢; omega) | (have hq := RpF.len (by assumption); omega))))) (vA (fun (g1 : (m2 || ((o.length : Int) != ((O2.getD bz.toNat default).length : Int))) = false) => (ql 25 0 (vL (g4 bz.toNat) (by (try simp only [BS] at g1); (first | (dsimp only; omega) | omega | (have hq := RpF.len (by assumption); dsimp only at hq ⊢; omega) | (have hq := RpF.len (by assumption); omega)))) rfl rfl)) trivial)))) rfl fun _ => aa (wUo 7 0 [] 83 89 [] [(85, (.slice A O2.length J)), (86, (iI bz)), (87, (.slice (cA (a7 0) 0) (b4.getD 0 default).length (cK (a7 0) 0))), (88, (.slice ag o.length al)), (89, (.pointer (some ⟨sB (.slice N Z.length T), sO (.slice N Z.length T) + bz.toNat * Rp.sz (List Int), none⟩)))] (Sv.ix (j := bz) (OS.sv E av (i := 1) rfl) (by omega) (by omega)) rfl fun _ => aN (db (α := (List Int)) (j := bz.toNat) (off := 0) (q := 1) (b4.getD 0 default) E av rfl rfl rfl rfl rfl rfl rfl rfl (aM (x := default) (by omega)) rfl (by rintro cs ⟨_, _, rfl, _⟩; exact ⟨a07 rfl, ⟨(cA (a7 0) 0), (cK (a7 0) 0), rfl, h0⟩⟩)) rfl ?_)
   rintro _ kX hn ⟨dd, (f6 : HS _ _ _ [_, hn, _, _] _), _⟩
   have ih := OS.len' dd
   refine wUo 1 8 [] 90 90 [] [(90, (.pointer (some ⟨sB (.slice A O2.length J), sO (.slice A O2.length J) + bz.toNat * Rp.sz (List Int), none⟩)))] (Sv.ix (j := bz) (OS.sv V f6 (i := 2) rfl) (by omega) (by omega)) rfl fun _ => aN (db (α := (List Int)) (j := bz.toNat) (off := 0) (q := 2) o V f6 rfl rfl rfl rfl rfl rfl rfl rfl (aM (x := default) (by omega)) rfl (by rintro cs ⟨_, _, rfl, _⟩; exact ⟨a07 rfl, ⟨ag, al, rfl, a8⟩⟩)) rfl ?_
   rintro _ kY hp ⟨dk, (hC : HS _ _ _ [_, _, hp, _] _), _⟩
   have ik := OS.len' dk
   refine ae 2 rfl (wU 1 [] 30 31 [7] [(7, (iI (bz - 1)))] (vi (n := bz - 1) (by omega)) rfl fun _ => ?_)
   have hst := stp_of (I := Z) (O := O2) (show (aY (c.blocks.getD bz.toNat default)).length ≤ q by omega) ho (by assumption)
   have hmv := mv be hbn hst hW hk rfl
   refine hE _ _ _ ?_ ⟨bz - 1, ((m2 || ((o.length : Int) != ((O2.getD bz.toNat default).length : Int))) || (((b4.getD 0 default).length : Int) != ((Z.getD bz.toNat default).length : Int))), Z.set bz.toNat (b4.getD 0 default), O2.set bz.toNat o, N, T, hn, A, J, hp, _, (fT (fT (fT (c3) b9) bk) c4), (HS.sub hC (a03 _ _)), (OS.norm dd), (OS.norm dk), (agC rfl (agC (show Value.slice N Z.length T = Value.slice N (Z.set bz.toNat (b4.getD 0 default)).length T by rw [OS.len' dd]) (agC (show Value.slice A O2.length J = Value.slice A (O2.set bz.toNat o).length J by rw [OS.len' dk]) ⟨rfl, rfl, trivial⟩))), rfl, (by exact rsn_set be hbn hst), (by omega), (by exact hmv.1), (by exact hmv.2.1), (by exact fun h b h1 h2 => hmv.2.2 h (fun hm b h1 => hcl hm b (by omega)) b (by omega) h2)⟩
   omega
  have e1 := c8
  try simp only [BS] at e1
  refine hD _ _ _ ?_ ⟨m2, Z, O2, N, T, a4, A, J, a5, _, (fT (c0) c3), b3, E, V, ⟨rfl, rfl, rfl, rfl, trivial⟩, rfl, (by exact be), (by exact fun h b hb => hcl h b (by omega) hb)⟩
  rw [hmo]; exact mea_lt hk (cnt2_le vF be)
 have d2 := c6
 try simp only [BS] at d2
 refine wT 1 [] 2 3 [91, 92] [(2, (.slice a0 I1.length a2)), (3, (.slice a1 O1.length a3))] rfl fun _ => ?_
 obtain ⟨kP, fi, dv, dl, jw⟩ := OS.frz c5 dn (i := 1) rfl
 have dv : HS _ _ _ [_, [], bb] _ := dv
 replace bl := bl.mono fi
 obtain ⟨kQ, f0, d1, hB, kc⟩ := OS.frz bl dv (i := 2) rfl
 have d1 : HS _ _ _ [_, _, []] _ := d1
 replace dl := dl.mono f0
 refine ak ⟨.inr rfl, _, rfl, a0, a2, I1, a1, a3, O1, _, (fT (fT (fT (ea) c0) fi) f0), (HS.forget d1), rfl, dl, hB, (by exact fun _ => bkf_of es (cl (by assumption))), (by exact fun h => absurd (hv.symm.trans h) (by decide))⟩
end Go.Proofs.YtknafdcgpaejlaaDoor.mi
