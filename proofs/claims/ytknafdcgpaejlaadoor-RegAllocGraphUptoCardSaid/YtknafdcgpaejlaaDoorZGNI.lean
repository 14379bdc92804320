/-
 The reference interference graph and use counts, by symbolic runs. No condition but bounds on lengths.
-/
import Derived.Test.YtknafdcgpaejlaaDoorZGNC
noncomputable section
namespace Go.Proofs.YtknafdcgpaejlaaDoor.ni
open Go.R
set_option maxRecDepth 10000
set_option linter.unusedVariables false
set_option linter.unusedSimpArgs false
variable (ex : FuncId) {F : Fz} {H : Heap} {R : List Fp}
open m1 m2 m3 m4 m5 m6 ma ml mb mc md mf mg mh mi mj na nb nc
theorem e0_iff {c : VFnT} {k n : Nat} (hn : (bQ c k).ins.length = n) (a x : Nat) : E1 c k n a x ↔ E0 c (k + 1) a x := by
 unfold E1 E0
 constructor
 ·
  rintro (⟨b, i, A, z⟩ | ⟨i, A, z⟩)
  ·
   exact ⟨b, i, by omega, z⟩
  exact ⟨k, i, a1F _, by omega, z⟩
 rintro ⟨b, i, A, z, E⟩
 rcases a0k b k with hb | hb
 ·
  exact .inl ⟨b, i, hb, z, E⟩
 have : b = k := by omega
 subst this; exact .inr ⟨i, by omega, E⟩
theorem e1_iff {c : VFnT} {k : Nat} (a x : Nat) : E0 c k a x ↔ E1 c k 0 a x := ⟨.inl, fun h => h.elim id fun ⟨i, h, _⟩ => absurd h (a1M _)⟩
theorem e1s_iff {c : VFnT} {k n q : Nat} (hq : (ab (jl c k n)).length ≤ q) (a x : Nat) : E2 c k n q a x ↔ E1 c k (n + 1) a x := by
 unfold E2 E1
 rw [a0h hq]
 constructor
 ·
  rintro ((h | ⟨i, A, z⟩) | h)
  ·
   exact .inl h
  ·
   exact .inr ⟨i, by omega, z⟩
  exact .inr ⟨n, a1F _, h⟩
 rintro (h | ⟨i, A, z⟩)
 ·
  exact .inl (.inl h)
 rcases a0k i n with hi | hi
 ·
  exact .inl (.inr ⟨i, hi, z⟩)
 have : i = n := by omega
 subst this; exact .inr z
theorem e2_iff {c : VFnT} {k n : Nat} (a x : Nat) : E1 c k n a x ↔ E2 c k n 0 a x := ⟨.inl, fun h => h.elim id fun h => by simp at h⟩
theorem e2s_iff {c : VFnT} {k n q p : Nat} {l : List Int} (hl : Lst l (ptS c k (n + 1))) (hq : q < (ab (jl c k n)).length) (hp : l.length ≤ p) (a x : Nat) : E3 c k n q l p a x ↔ E2 c k n (q + 1) a x := by
 unfold E3 E2
 rw [a0h hp, bo hq (d := 0), a09, a0e, hl.mem]
 have e : ((x : Int)).toNat = x := by omega
 rw [e]
 constructor
 ·
  rintro ((h | ⟨z, A, E⟩) | ⟨z, ⟨_, A⟩, E⟩)
  ·
   exact .inl h
  ·
   exact .inr ⟨.inl z, A, E⟩
  exact .inr ⟨.inr z, A, E⟩
 rintro (h | ⟨z | z, A, E⟩)
 ·
  exact .inl (.inl h)
 ·
  exact .inl (.inr ⟨z, A, E⟩)
 exact .inr ⟨z, ⟨by omega, A⟩, E⟩
theorem e3_iff {c : VFnT} {k n q : Nat} {l : List Int} (a x : Nat) : E2 c k n q a x ↔ E3 c k n q l 0 a x := ⟨.inl, fun h => h.elim id fun h => by simp at h⟩
structure RlF (c : VFnT) (g : List (List Int)) (R : Nat → Nat → Prop) : Prop where
 len : g.length = c.regs.toNat
 row : ∀ r, r < c.regs.toNat → Lst (g.getD r default) (Sy R r)
 rng : ∀ r, (g.getD r default).length ≤ 3000 ∧ ∀ x ∈ g.getD r default, 0 ≤ x ∧ x < c.regs
theorem RlF.iff {c : VFnT} {g : List (List Int)} {R R' : Nat → Nat → Prop} (h : RlF c g R) (k : ∀ a x, R a x ↔ R' a x) : RlF c g R' := ⟨h.len, fun r hr => Lst.ext (h.row r hr) fun y => Sy.iff k r y, h.rng⟩
theorem rl_zero {c : VFnT} : RlF c (List.replicate c.regs.toNat ([] : List Int)) (E0 c 0) := by
 have e : ∀ r, (List.replicate c.regs.toNat ([] : List Int)).getD r default = [] := fun r => by rw [a01, a1i]; split <;> rfl
 refine ⟨a0P, fun r _ => ?_, fun r => ?_⟩
 ·
  rw [e]
  exact Lst.nil fun y h => by rcases h with ⟨b, _, h, _⟩ | ⟨b, _, h, _⟩ <;> exact absurd h (a1M _)
 rw [e]; exact ⟨a0B _, fun x hx => by cases hx⟩
theorem rl_yes {c : VFnT} (v : VF c) {g : List (List Int)} {k n q p : Nat} {l : List Int} (hp : p < l.length) (h : RlF c g (E3 c k n q l p)) (hn : eok c k n ((ab (jl c k n)).getD q 0) (l.getD p 0)) (ha : 0 ≤ (ab (jl c k n)).getD q 0 ∧ (ab (jl c k n)).getD q 0 < c.regs) (hx : 0 ≤ l.getD p 0 ∧ l.getD p 0 < c.regs) :
  RlF c ((g.set ((ab (jl c k n)).getD q 0).toNat (cY (g.getD ((ab (jl c k n)).getD q 0).toNat default) (l.getD p 0))).set (l.getD p 0).toNat (cY (g.getD (l.getD p 0).toNat default) ((ab (jl c k n)).getD q 0))) (E3 c k n q l (p + 1)) := by
 generalize ea : (ab (jl c k n)).getD q 0 = a at *
 generalize ex : l.getD p 0 = x at *
 have hl := h.len
 have hr := v.regs
 have hax : a.toNat ≠ x.toNat := fun e => hn.1 (by omega)
 have e : ∀ r, ((g.set a.toNat (cY (g.getD a.toNat default) x)).set x.toNat (cY (g.getD x.toNat default) a)).getD r default = if x.toNat = r then cY (g.getD r default) a else if a.toNat = r then cY (g.getD r default) x else g.getD r default := fun r => by
  rw [d8, d8]
  by_cases A : x.toNat = r
  ·
   subst A; rw [if_pos ⟨rfl, by rw [a0i]; omega⟩, if_pos rfl]
  rw [if_neg (fun z => A z.1), if_neg A]
  by_cases J : a.toNat = r
  ·
   subst J; rw [if_pos ⟨rfl, by omega⟩, if_pos rfl]
  rw [if_neg (fun z => J z.1), if_neg J]
 have E : ∀ r y, Sy (E3 c k n q l (p + 1)) r y ↔ Sy (E3 c k n q l p) r y ∨ (r = a.toNat ∧ y = x.toNat) ∨ (r = x.toNat ∧ y = a.toNat) := fun r y => by
  unfold Sy
  rw [gB hp, gB hp, ea, ex]
  constructor
  ·
   rintro ((A | ⟨A, z, _⟩) | (A | ⟨A, z, _⟩))
   ·
    exact .inl (.inl A)
   ·
    exact .inr (.inl ⟨by omega, by omega⟩)
   ·
    exact .inl (.inr A)
   exact .inr (.inr ⟨by omega, by omega⟩)
  rintro ((A | A) | ⟨A, z⟩ | ⟨A, z⟩)
  ·
   exact .inl (.inl A)
  ·
   exact .inr (.inl A)
  ·
   subst A z; exact .inl (.inr ⟨by omega, by omega, eok_of hn ha.1 hx.1⟩)
  subst A z; exact .inr (.inr ⟨by omega, by omega, eok_of hn ha.1 hx.1⟩)
 have R : ∀ r, ∀ y ∈ ((g.set a.toNat (cY (g.getD a.toNat default) x)).set x.toNat (cY (g.getD x.toNat default) a)).getD r default, 0 ≤ y ∧ y < c.regs := fun r y hy => by
  rw [e] at hy
  split at hy
  ·
   rcases iW.1 hy with rfl | hy
   ·
    exact ha
   exact (h.rng r).2 y hy
  split at hy
  ·
   rcases iW.1 hy with rfl | hy
   ·
    exact hx
   exact (h.rng r).2 y hy
  exact (h.rng r).2 y hy
 have W : ∀ r, r < c.regs.toNat → Lst (((g.set a.toNat (cY (g.getD a.toNat default) x)).set x.toNat (cY (g.getD x.toNat default) a)).getD r default) (Sy (E3 c k n q l (p + 1)) r) := fun r hrl => by
  rw [e]
  have h0 := h.row r hrl
  split
  ·
   rename_i A
   refine Lst.ext (Lst.ins h0 ha.1) fun y => ?_
   rw [E]
   constructor
   ·
    rintro (z | z)
    ·
     exact .inl z
    exact .inr (.inr ⟨A.symm, by omega⟩)
   rintro (z | ⟨z, _⟩ | ⟨_, z⟩)
   ·
    exact .inl z
   ·
    exact absurd (z.symm.trans A.symm) hax
   exact .inr (by omega)
  rename_i A
  split
  ·
   rename_i J
   refine Lst.ext (Lst.ins h0 hx.1) fun y => ?_
   rw [E]
   constructor
   ·
    rintro (z | z)
    ·
     exact .inl z
    exact .inr (.inl ⟨J.symm, by omega⟩)
   rintro (z | ⟨_, z⟩ | ⟨z, _⟩)
   ·
    exact .inl z
   ·
    exact .inr (by omega)
   exact absurd z.symm A
  rename_i J
  refine Lst.ext h0 fun y => ?_
  rw [E]
  constructor
  ·
   exact .inl
  rintro (z | ⟨z, _⟩ | ⟨z, _⟩)
  ·
   exact z
  ·
   exact absurd z.symm J
  exact absurd z.symm A
 refine ⟨by rw [a0i, a0i]; exact hl, W, fun r => ⟨?_, R r⟩⟩
 rcases a0k r c.regs.toNat with A | A
 ·
  have := jg 0 hr.1 (W r A).asc (R r)
  omega
 rw [cr (by rw [a0i, a0i]; omega)]; exact a0B _
theorem rl_no {c : VFnT} {g : List (List Int)} {k n q p : Nat} {l : List Int} (hp : p < l.length) (h : RlF c g (E3 c k n q l p)) (hn : ¬ eok c k n ((ab (jl c k n)).getD q 0) (l.getD p 0)) : RlF c g (E3 c k n q l (p + 1)) := h.iff fun a x => by
 rw [gB hp]
 exact ⟨.inl, fun h => h.elim id fun ⟨A, E, z⟩ => absurd (by rw [A, E] at z; exact z) hn⟩
theorem end_rng {c : VFnT} {b : Nat} (v : VF c) (hb : b < c.blocks.length) : ∀ x ∈ df (bQ c b), 0 ≤ x ∧ x < c.regs := fun x hx => by
 unfold df at hx
 split at hx
 ·
  rename_i h
  rw [a0e] at hx; subst hx
  exact v.fin b hb h
 cases hx
theorem rl_fin {c : VFnT} {g : List (List Int)} {b : Nat} (hb : c.blocks.length ≤ b) (z : b ≤ c.blocks.length) (h : RlF c g (E0 c b)) : InF c g := by
 have e : b = c.blocks.length := by omega
 subst e; exact ⟨h.len, h.row⟩
set_option maxHeartbeats 4000000 in
theorem rinter_c {a1 : Option Addr} {a3 : Nat} (c : VFnT) (hs : HS (.of H []) F H [] R) (ln : in64 c.params) (lp : in64 c.regs) (ad : SR F (.slice a1 c.blocks.length a3) c.blocks) (hT : TB 37 tabC F) (hins : ∀ j, (c.blocks.getD j default).ins.length ≤ 1073741822) : kKt ex 21 [(.agg ⟨[(iI c.params), (iI c.regs), (.slice a1 c.blocks.length a3)]⟩)] H fun v H' => ∃ (ag : Option Addr) (kg : Nat) (g : List (List Int)) (F' : Fz), Fz.le F F' ∧ HS (.of H []) F' H' [] R ∧ v = .slice ag g.length kg ∧ SR F' (.slice ag g.length kg) g ∧ (cx c = true → InF c g) ∧ (cx c = false → g = []) := by
 refine aI Tryd.func21 rfl rfl ?_
 refine ah 1 rfl ?_
 refine aa ?_
 refine aH (bw hs rfl rfl) rfl rfl ?_
 rintro _ H2 _ ⟨b1, rfl, (f9 : HS _ _ _ [[(b1, .cells [(iI c.params), (iI c.regs), (.slice a1 c.blocks.length a3)] none false)]] _), _⟩
 refine wa (.slice none 0 0) rfl rfl rfl ?_
 refine ae 3 rfl ?_
 refine aa ?_
 let e1 : Value := (.agg ⟨[(iI c.params), (iI c.regs), (.slice a1 c.blocks.length a3)]⟩)
 refine wUo 1 0 [(0, .o e1)] 12 12 [] [(12, e1)] (qn 24 0 3 (HS.hc f9 (i := 0) rfl) rfl rfl rfl rfl) rfl fun _ => ?_
 refine az (ap rfl rfl rfl) rfl rfl (m3.hU ex c (HS.call f9) (by first | (dsimp only; omega) | omega) (by first | (dsimp only; omega) | omega) ad hT (by exact fun j => a0b (hins j) (by omega))) ?_
 rintro _ H4 ⟨r4, F4, et, dd, rfl, rfl⟩
 replace dd : HS _ _ _ [_] _ := HS.back f9 rfl dd
 replace hT := hT.mono et
 replace ad := ad.mono et
 refine wTo 1 2 [] 14 14 [] [(14, (.bool (!(cx c))))] rfl fun _ => ?_
 refine ae 1 rfl ?_
 refine am 1 2 (v := (!(cx c))) rfl rfl rfl rfl (fun f1 => ?_) (fun f1 => ?_)
 ·
  have c6 := f1
  try simp only [BS] at c6
  have hv := c6
  refine wT 1 [] 2 2 [] [(2, (.slice none 0 0))] rfl fun _ => ?_
  refine ak ⟨.inr rfl, _, rfl, none, 0, ([] : List (List Int)), _, (et), (HS.forget dd), rfl, (SR.nil : SR F4 (.slice none 0 0) ([] : List (List Int))), (by first | exact fun h => absurd (h.symm.trans hv) (by decide) | exact fun _ => rl_fin (by omega) hb f8), (by first | exact fun _ => rfl | exact fun h => absurd (hv.symm.trans h) (by decide))⟩
 have c6 := f1
 try simp only [BS] at c6
 have hv := c6
 have vF := iA hv
 have hnb := vF.nb
 have hrg := vF.regs
 refine aa ?_
 refine wUo 2 0 [(1, .o (iI c.regs))] 15 16 [] [(16, (iI c.regs))] (ql 3 1 (HS.hc dd (i := 0) rfl) rfl rfl) rfl fun _ => ?_
 refine aH (dg ([] : (List Int)) dd rfl rfl rfl rfl rfl rfl rfl rfl rfl ⟨none, 0, rfl, SR.nil⟩ (by first | (dsimp only; omega) | omega) (by first | (dsimp only; omega) | omega)) rfl rfl ?_
 rintro _ lH p9 ⟨a9, k9, rfl, jw, (h5 : HS _ _ _ [_, p9] _), _⟩
 refine wa (.slice a9 (List.replicate c.regs.toNat ([] : (List Int))).length k9) rfl rfl rfl ?_
 refine ae 3 rfl ?_
 refine wT 2 [] 1 0 [4] [(4, (iI 0))] rfl fun _ => ?_
 let e2 : Fp := [(b1, .cells [(iI c.params), (iI c.regs), (.slice a1 c.blocks.length a3)] none false)]
 refine aj (fun (mm : Nat) f H' => ∃ (g1 : List (List Int)) (b : Nat) (ax : Option Addr) (ay : Nat) (a8 : Fp) (F' : Fz), Fz.le F4 F' ∧ HS (Base.of H []) F' H' [e2, a8] R ∧ OS F' (.slice ax g1.length ay) g1 a8 ∧ aD f [(1, (.pointer (some ⟨b1, 0, none⟩))), (3, (.slice ax g1.length ay)), (4, (iI (b : Int)))] ∧ mm = c.blocks.length - b ∧ (RlF c g1 (E0 c b)) ∧ (b ≤ c.blocks.length)) _ ⟨List.replicate c.regs.toNat ([] : (List Int)), 0, a9, k9, p9, _, fR, h5, jw, (agC rfl (agC rfl (agC rfl agN))), rfl, (by exact rl_zero), (by first | assumption | omega | (simp at *; omega))⟩ ?_
 rintro lv lP lI ⟨g1, b, ax, ay, a8, lB, ci, cc, bk, f4, rfl, f8, hb⟩ h7
 refine au _ f4 (fun _ => ?_)
 clear f4
 replace hT := hT.mono ci
 replace ad := ad.mono ci
 refine ah 2 rfl ?_
 refine wU 1 [(2, .o (.slice a1 c.blocks.length a3))] 18 22 [] [(22, (.bool (decide ((b : Int) < (c.blocks.length : Int)))))] (ql 22 2 (HS.hc cc (i := 0) rfl) rfl rfl) rfl fun _ => ?_
 refine am 4 5 (v := (decide ((b : Int) < (c.blocks.length : Int)))) rfl rfl rfl rfl (fun dl => ?_) (fun dl => ?_)
 ·
  have e5 := dl
  try simp only [BS] at e5
  have hbn : b < c.blocks.length := by omega
  have hbl := hins b
  refine aa ?_
  refine wUo 2 0 [(0, .o e1)] 25 26 [] [(25, e1), (26, (iI (b : Int)))] (qn 24 0 3 (HS.hc cc (i := 0) rfl) rfl rfl rfl rfl) rfl fun _ => ?_
  refine az (ap rfl rfl rfl) rfl rfl (mj.rlp_c ex c (b : Int) (HS.call cc) (by first | (dsimp only; omega) | omega) (by first | (dsimp only; omega) | omega) ad (by first | (dsimp only; omega) | omega) hT (by exact fun j => a0b (hins j) (by omega))) ?_
  rintro _ lJ ⟨bz, b4, z, iv, cl, d4, rfl, ar, ll, lj⟩
  replace d4 : HS _ _ _ [_, a8] _ := HS.back cc rfl d4
  replace bk := bk.mono cl
  refine wa (.slice bz z.length b4) rfl rfl rfl ?_
  refine ae 2 rfl ?_
  have pf : PtF c b z := (by assumption : cx c = true → 0 ≤ ((b : Nat) : Int) → ((b : Nat) : Int) < (c.blocks.length : Int) → PtF c ((b : Nat) : Int).toNat z) hv (by omega) (by omega)
  have hpl : (z).length = (c.blocks.getD b default).ins.length + 1 := pf.len
  refine wT 2 [] 1 0 [6] [(6, (iI 0))] rfl fun _ => ?_
  refine aj (fun (mm : Nat) f H' => ∃ (g2 : List (List Int)) (k : Nat) (a4 : Option Addr) (a6 : Nat) (a0 : Fp) (F' : Fz), Fz.le iv F' ∧ HS (Base.of H []) F' H' [e2, a0] R ∧ OS F' (.slice a4 g2.length a6) g2 a0 ∧ aD f [(1, (.pointer (some ⟨b1, 0, none⟩))), (3, (.slice a4 g2.length a6)), (4, (iI (b : Int))), (5, (.slice bz z.length b4)), (6, (iI (k : Int)))] ∧ mm = (c.blocks.getD b default).ins.length - k ∧ (RlF c g2 (E1 c b k)) ∧ (k ≤ (c.blocks.getD b default).ins.length)) _ ⟨g1, 0, ax, ay, a8, _, fR, d4, bk, (agC rfl (agC rfl (agC rfl (agC rfl (agC rfl agN))))), rfl, (by exact f8.iff e1_iff), (by first | assumption | omega | (simp at *; omega))⟩ ?_
  rintro lw lQ lK ⟨g2, k, a4, a6, a0, lC, b7, av, bl, f5, rfl, hD, hk⟩ h8
  refine au _ f5 (fun _ => ?_)
  clear f5
  replace hT := (hT.mono cl).mono b7
  replace ad := (ad.mono cl).mono b7
  replace ar := ar.mono b7
  refine ah 2 rfl ?_
  obtain ⟨f2, g0⟩ := Sv.view (SR.sv ad av)
  obtain ⟨j2, kc, kd, ki, kZ⟩ := BlkT.fx (g0 b)
  refine wR 1 [(2, .o (.slice a1 c.blocks.length a3)), (6, .o (.slice (cA (f2 b) 0) (c.blocks.getD b default).ins.length (cK (f2 b) 0)))] 28 36 [] [(36, (.bool (decide ((k : Int) < ((c.blocks.getD b default).ins.length : Int)))))] (vA (ql 22 2 (HS.hc av (i := 0) rfl) rfl rfl) (vA (Sv.ix (j := (b : Int)) (SR.sv ad av) (by first | (dsimp only; omega) | omega) (by first | (dsimp only; omega) | omega)) (vA (ql 46 0 (BlkT.vw (g0 b) (by first | (dsimp only; omega) | omega)) rfl rfl) trivial))) rfl fun _ => ?_
  refine am 4 5 (v := (decide ((k : Int) < ((c.blocks.getD b default).ins.length : Int)))) rfl rfl rfl rfl (fun dn => ?_) (fun dn => ?_)
  ·
   have e6 := dn
   try simp only [BS] at e6
   have hkn : k < (c.blocks.getD b default).ins.length := by omega
   have pt : Lst ((z).getD (((k : Nat) : Int) + 1).toNat default) (ptS c b (k + 1)) := pf.pt (k + 1) hkn
   have hal := Lst.len pt hrg.1 (fun r h => pt_lt vF hbn h)
   have hwr : ∀ x ∈ ab ((c.blocks.getD b default).ins.getD k default), 0 ≤ x ∧ x < c.regs := (bR (vF.ins b hbn k hkn)).2.1
   have lX := cG (v := ((c.blocks.getD b default).ins.getD k default))
   refine aa ?_
   obtain ⟨f3, g5⟩ := Sv.view (SR.sv ad av)
   obtain ⟨kk, kl, kn, ko, e0⟩ := BlkT.fx (g5 b)
   obtain ⟨b0, g6⟩ := Sv.view (SR.sv e0 av)
   obtain ⟨kr, kx, ky, kz, kS, hz⟩ := VInT.fx (g6 k)
   let e3 : Value := (.agg ⟨[(iI ((c.blocks.getD b default).ins.getD k default).i.op), (iI ((c.blocks.getD b default).ins.getD k default).i.a), (iI ((c.blocks.getD b default).ins.getD k default).i.b), (iI ((c.blocks.getD b default).ins.getD k default).i.c), (iI ((c.blocks.getD b default).ins.getD k default).i.n), (.slice (cA (b0 k) 5) ((c.blocks.getD b default).ins.getD k default).args.length (cK (b0 k) 5))]⟩)
   refine wRo 9 0 [(1, .o (.slice a1 c.blocks.length a3)), (5, .o (.slice (cA (f3 b) 0) (c.blocks.getD b default).ins.length (cK (f3 b) 0))), (8, .o e3)] 39 47 [] [(47, e3)] (vA (ql 22 2 (HS.hc av (i := 0) rfl) rfl rfl) (vA (Sv.ix (j := (b : Int)) (SR.sv ad av) (by first | (dsimp only; omega) | omega) (by first | (dsimp only; omega) | omega)) (vA (ql 46 0 (BlkT.vw (g5 b) (by first | (dsimp only; omega) | omega)) rfl rfl) (vA (Sv.ix (j := (k : Int)) (SR.sv e0 av) (by first | (dsimp only; omega) | omega) (by first | (dsimp only; omega) | omega)) (vA (qn 52 0 6 (VInT.vw (g6 k) (by first | (dsimp only; omega) | omega)) rfl rfl rfl rfl) trivial))))) rfl fun _ => ?_
   refine aH (bp av rfl) rfl rfl ?_
   rintro _ lL _ ⟨c7, rfl, (h6 : HS _ _ _ [_, a0, [(c7, .cells [(iI 0), (iI 0), (iI 0), (iI 0), (iI 0), (.slice none 0 0)] none false)]] _), _⟩
   refine aL (aE (q := 2) h6 rfl rfl rfl rfl rfl rfl rfl rfl rfl) rfl ?_
   rintro _ lM _ ⟨(ea : HS _ _ _ [_, _, [(c7, .cells [(iI ((c.blocks.getD b default).ins.getD k default).i.op), (iI ((c.blocks.getD b default).ins.getD k default).i.a), (iI ((c.blocks.getD b default).ins.getD k default).i.b), (iI ((c.blocks.getD b default).ins.getD k default).i.c), (iI ((c.blocks.getD b default).ins.getD k default).i.n), (.slice (cA (b0 k) 5) ((c.blocks.getD b default).ins.getD k default).args.length (cK (b0 k) 5))] none false)]] _), _⟩
   refine ae 2 rfl ?_
   refine aa ?_
   refine wUo 1 0 [(0, .o e3)] 48 48 [] [(48, e3)] (qn 52 0 6 (HS.hc ea (i := 2) rfl) rfl rfl rfl rfl) rfl fun _ => ?_
   refine az (ap rfl rfl rfl) rfl rfl (ma.iF ex ((c.blocks.getD b default).ins.getD k default) (HS.call ea) (by first | (dsimp only; omega) | omega) (by first | (dsimp only; omega) | omega) (by first | (dsimp only; omega) | omega) (by first | (dsimp only; omega) | omega) (by first | (dsimp only; omega) | omega) hz hT) ?_
   rintro _ lN ⟨V, Z, lY, ha, iz, co, em, rfl, T, rfl⟩
   replace em : HS _ _ _ [_, _, _, ha] _ := HS.back ea rfl em
   replace bl := bl.mono co
   refine wa (.slice V (ab ((c.blocks.getD b default).ins.getD k default)).length Z) rfl rfl rfl ?_
   refine ae 2 rfl ?_
   refine wT 2 [] 1 0 [9] [(9, (iI 0))] rfl fun _ => ?_
   let hF : Fp := [(c7, .cells [(iI ((c.blocks.getD b default).ins.getD k default).i.op), (iI ((c.blocks.getD b default).ins.getD k default).i.a), (iI ((c.blocks.getD b default).ins.getD k default).i.b), (iI ((c.blocks.getD b default).ins.getD k default).i.c), (iI ((c.blocks.getD b default).ins.getD k default).i.n), (.slice (cA (b0 k) 5) ((c.blocks.getD b default).ins.getD k default).args.length (cK (b0 k) 5))] none false)]
   refine aj (fun (mm : Nat) f H' => ∃ (g3 : List (List Int)) (i : Nat) (a5 : Option Addr) (a7 : Nat) (bb : Fp) (F' : Fz), Fz.le iz F' ∧ HS (Base.of H []) F' H' [e2, bb, hF, ha] R ∧ OS F' (.slice a5 g3.length a7) g3 bb ∧ aD f [(1, (.pointer (some ⟨b1, 0, none⟩))), (3, (.slice a5 g3.length a7)), (4, (iI (b : Int))), (5, (.slice bz z.length b4)), (6, (iI (k : Int))), (7, (.pointer (some ⟨c7, 0, none⟩))), (8, (.slice V (ab ((c.blocks.getD b default).ins.getD k default)).length Z)), (9, (iI (i : Int)))] ∧ mm = (ab ((c.blocks.getD b default).ins.getD k default)).length - i ∧ (RlF c g3 (E2 c b k i)) ∧ (i ≤ (ab ((c.blocks.getD b default).ins.getD k default)).length)) _ ⟨g2, 0, a4, a6, a0, _, fR, em, bl, (agC rfl (agC rfl (agC rfl (agC rfl (agC rfl (agC rfl (agC rfl (agC rfl agN)))))))), rfl, (by exact hD.iff e2_iff), (by first | assumption | omega | (simp at *; omega))⟩ ?_
   rintro lz lR lO ⟨g3, i, a5, a7, bb, i1, b9, go, dk, f6, rfl, hE, hi⟩ h9
   refine au _ f6 (fun _ => ?_)
   clear f6
   replace hT := (hT.mono co).mono b9
   replace ar := (ar.mono co).mono b9
   replace T := T.mono b9
   refine ah 2 rfl ?_
   refine wT 1 [] 50 53 [] [(53, (.bool (decide ((i : Int) < ((ab ((c.blocks.getD b default).ins.getD k default)).length : Int)))))] rfl fun _ => ?_
   refine am 4 5 (v := (decide ((i : Int) < ((ab ((c.blocks.getD b default).ins.getD k default)).length : Int)))) rfl rfl rfl rfl (fun ds => ?_) (fun ds => ?_)
   ·
    have fd := ds
    try simp only [BS] at fd
    have hwl := eQ hwr (k := i) (by omega)
    refine wT 2 [] 1 0 [10] [(10, (iI 0))] rfl fun _ => ?_
    refine aj (fun (mm : Nat) f H' => ∃ (U : List (List Int)) (j : Nat) (A : Option Addr) (E : Nat) (an : Fp) (F' : Fz), Fz.le i1 F' ∧ HS (Base.of H []) F' H' [e2, an, hF, ha] R ∧ OS F' (.slice A U.length E) U an ∧ aD f [(1, (.pointer (some ⟨b1, 0, none⟩))), (3, (.slice A U.length E)), (4, (iI (b : Int))), (5, (.slice bz z.length b4)), (6, (iI (k : Int))), (7, (.pointer (some ⟨c7, 0, none⟩))), (8, (.slice V (ab ((c.blocks.getD b default).ins.getD k default)).length Z)), (9, (iI (i : Int))), (10, (iI (j : Int)))] ∧ mm = ((z).getD (((k : Nat) : Int) + 1).toNat default).length - j ∧ (RlF c U (E3 c b k i ((z).getD (((k : Nat) : Int) + 1).toNat default) j)) ∧ (j ≤ ((z).getD (((k : Nat) : Int) + 1).toNat default).length)) _ ⟨g3, 0, a5, a7, bb, _, fR, go, dk, (agC rfl (agC rfl (agC rfl (agC rfl (agC rfl (agC rfl (agC rfl (agC rfl (agC rfl agN))))))))), rfl, (by exact hE.iff e3_iff), (by first | assumption | omega | (simp at *; omega))⟩ ?_
    rintro lA lS hC ⟨U, j, A, E, an, lD, b2, J, N, f7, rfl, b6, hj⟩ g9
    refine au _ f7 (fun _ => ?_)
    clear f7
    replace hT := hT.mono b2
    replace ar := ar.mono b2
    replace T := T.mono b2
    refine ah 2 rfl ?_
    refine aa ?_
    refine wTo 3 0 [] 56 58 [] [(56, (iI (j : Int))), (57, (.slice bz z.length b4)), (58, (iI (k : Int)))] rfl fun _ => ?_
    refine az (ap rfl rfl rfl) rfl rfl (mh.after_c ex z (k : Int) (HS.call J) ar (by first | (dsimp only; omega) | omega) hT (by first | (dsimp only; omega) | omega)) ?_
    rintro _ hC ⟨k6, lr, lZ, rfl, rfl, kY, rfl⟩
    refine wTo 2 4 [] 60 61 [] [(61, (.bool (decide ((j : Int) < ((z.getD ((k : Int) + 1).toNat default).length : Int)))))] rfl fun _ => ?_
    refine ae 1 rfl ?_
    refine am 4 5 (v := (decide ((j : Int) < ((z.getD ((k : Int) + 1).toNat default).length : Int)))) rfl rfl rfl rfl (fun dt => ?_) (fun dt => ?_)
    ·
     have fi := dt
     try simp only [BS] at fi
     have hyl : 0 ≤ (((z).getD (((k : Nat) : Int) + 1).toNat default).getD j 0) ∧ (((z).getD (((k : Nat) : Int) + 1).toNat default).getD j 0) < c.regs := by (have hm := (pt.mem _).1 (mem_at (l := ((z).getD (((k : Nat) : Int) + 1).toNat default)) (q := j) (by omega)); have hh := pt_lt vF hbn hm.2; omega)
     refine aa ?_
     refine wTo 2 0 [] 64 65 [] [(64, (.slice bz z.length b4)), (65, (iI (k : Int)))] rfl fun _ => ?_
     refine az (ap rfl rfl rfl) rfl rfl (mh.after_c ex z (k : Int) (HS.call J) ar (by first | (dsimp only; omega) | omega) hT (by first | (dsimp only; omega) | omega)) ?_
     rintro _ hC ⟨k7, lu, l0, rfl, rfl, ez, rfl⟩
     obtain ⟨k8, g7⟩ := Sv.view (SR.sv ez J)
     have lT := fI (g7 j)
     refine wRo 4 3 [(5, .o (iI ((z.getD ((k : Int) + 1).toNat default).getD j 0)))] 67 69 [11] [(11, (iI ((z.getD ((k : Int) + 1).toNat default).getD j 0)))] (vA (Sv.ix (j := (j : Int)) (SR.sv ez J) (by first | (dsimp only; omega) | omega) (by first | (dsimp only; omega) | omega)) (vA (ql 3 0 (vI (g7 j) (by first | (dsimp only; omega) | omega)) rfl rfl) trivial)) rfl fun _ => ?_
     refine ae 2 rfl ?_
     obtain ⟨la, g8⟩ := Sv.view (OS.sv T J (i := 3) rfl)
     have lU := fI (g8 i)
     refine wR 1 [(4, .o (iI ((ab ((c.blocks.getD b default).ins.getD k default)).getD i 0))), (9, .o (iI ((c.blocks.getD b default).ins.getD k default).i.op)), (15, .o (iI ((c.blocks.getD b default).ins.getD k default).i.b))] 70 89 [] [(89, (.bool ((((z.getD ((k : Int) + 1).toNat default).getD j 0) != ((ab ((c.blocks.getD b default).ins.getD k default)).getD i 0)) && (!((((c.blocks.getD b default).ins.getD k default).i.op == 10) && (((z.getD ((k : Int) + 1).toNat default).getD j 0) == ((c.blocks.getD b default).ins.getD k default).i.b))))))] (vA (Sv.ix (j := (i : Int)) (OS.sv T J (i := 3) rfl) (by first | (dsimp only; omega) | omega) (by first | (dsimp only; omega) | omega)) (vA (ql 3 0 (vI (g8 i) (by first | (dsimp only; omega) | omega)) rfl rfl) (vA (fun (g1 : (((z.getD ((k : Int) + 1).toNat default).getD j 0) != ((ab ((c.blocks.getD b default).ins.getD k default)).getD i 0)) = true) => (ql 3 0 (HS.hc J (i := 2) rfl) rfl rfl)) (vA (fun (g1 : (((c.blocks.getD b default).ins.getD k default).i.op == 10) = true) (g2 : (((z.getD ((k : Int) + 1).toNat default).getD j 0) != ((ab ((c.blocks.getD b default).ins.getD k default)).getD i 0)) = true) => (ql 3 2 (HS.hc J (i := 2) rfl) rfl rfl)) trivial)))) rfl fun _ => ?_
     refine am 0 2 (v := ((((z.getD ((k : Int) + 1).toNat default).getD j 0) != ((ab ((c.blocks.getD b default).ins.getD k default)).getD i 0)) && (!((((c.blocks.getD b default).ins.getD k default).i.op == 10) && (((z.getD ((k : Int) + 1).toNat default).getD j 0) == ((c.blocks.getD b default).ins.getD k default).i.b))))) rfl rfl rfl rfl (fun dv => ?_) (fun dv => ?_)
     ·
      have c8 := dv
      try simp only [BS] at c8
      have d3 := c8
      have hne : eok c b k ((ab ((c.blocks.getD b default).ins.getD k default)).getD i 0) (((z).getD (((k : Nat) : Int) + 1).toNat default).getD j 0) := ⟨d3.1, fun h => by have h2 := d3.2; simp_all⟩
      have hgl := b6.len
      have lV := (b6.rng ((ab ((c.blocks.getD b default).ins.getD k default)).getD i 0).toNat).1
      have lW := (b6.rng (((z).getD (((k : Nat) : Int) + 1).toNat default).getD j 0).toNat).1
      refine aY rfl ?_
      refine fm (.slice A U.length E) rfl rfl rfl ?_
      refine fm (.slice V (ab ((c.blocks.getD b default).ins.getD k default)).length Z) rfl rfl rfl ?_
      refine fm (iI (i : Int)) rfl rfl rfl ?_
      refine aB (v := (.pointer (some ⟨sB (.slice V (ab ((c.blocks.getD b default).ins.getD k default)).length Z), sO (.slice V (ab ((c.blocks.getD b default).ins.getD k default)).length Z) + i * Rp.sz Int, none⟩))) (id := .v) (bd (α := Int) (j := (i : Int)) rfl rfl rfl rfl (OS.sv T J.log0 (i := 3) rfl) (by first | (dsimp only; omega) | omega) (by first | (dsimp only; omega) | omega)) rfl rfl (dQ rfl) (cO _) ?_
      obtain ⟨lb, hV, hK⟩ := Sv.at (OS.sv T J.log0 (i := 3) rfl) (aK (x := (0 : Int)) (show i < (ab ((c.blocks.getD b default).ins.getD k default)).length from by first | (dsimp only; omega) | omega))
      obtain ⟨rfl, kT⟩ := hV
      refine aB (v := (iI ((ab ((c.blocks.getD b default).ins.getD k default)).getD i 0))) (id := .l (sB (.slice V (ab ((c.blocks.getD b default).ins.getD k default)).length Z))) (bt (i := 0) rfl rfl hK rfl rfl) rfl rfl (bG rfl) (⟨.inl rfl, ⟨.inl rfl, ⟨.inl rfl, ⟨.inr trivial, trivial⟩⟩⟩⟩) ?_
      refine fm (.slice A U.length E) rfl rfl rfl ?_
      refine fm (iI ((z.getD ((k : Int) + 1).toNat default).getD j 0)) rfl rfl rfl ?_
      refine fm (.slice A U.length E) rfl rfl rfl ?_
      refine fm (.slice V (ab ((c.blocks.getD b default).ins.getD k default)).length Z) rfl rfl rfl ?_
      refine fm (iI (i : Int)) rfl rfl rfl ?_
      refine aB (v := (.pointer (some ⟨sB (.slice V (ab ((c.blocks.getD b default).ins.getD k default)).length Z), sO (.slice V (ab ((c.blocks.getD b default).ins.getD k default)).length Z) + i * Rp.sz Int, none⟩))) (id := .v) (bd (α := Int) (j := (i : Int)) rfl rfl rfl rfl (OS.sv T J.log0 (i := 3) rfl) (by first | (dsimp only; omega) | omega) (by first | (dsimp only; omega) | omega)) rfl rfl (dQ rfl) (cO _) ?_
      obtain ⟨lc, hW, hM⟩ := Sv.at (OS.sv T J.log0 (i := 3) rfl) (aK (x := (0 : Int)) (show i < (ab ((c.blocks.getD b default).ins.getD k default)).length from by first | (dsimp only; omega) | omega))
      obtain ⟨rfl, kU⟩ := hW
      refine aB (v := (iI ((ab ((c.blocks.getD b default).ins.getD k default)).getD i 0))) (id := .l (sB (.slice V (ab ((c.blocks.getD b default).ins.getD k default)).length Z))) (bt (i := 0) rfl rfl hM rfl rfl) rfl rfl (bG rfl) (⟨.inl rfl, ⟨.inl rfl, ⟨.inl rfl, ⟨.inr trivial, ⟨.inr trivial, ⟨.inr trivial, ⟨.inr trivial, ⟨.inr trivial, ⟨.inr trivial, ⟨.inr trivial, ⟨.inr trivial, trivial⟩⟩⟩⟩⟩⟩⟩⟩⟩⟩⟩) ?_
      refine aB (v := (.pointer (some ⟨sB (.slice A U.length E), sO (.slice A U.length E) + (((ab ((c.blocks.getD b default).ins.getD k default)).getD i 0).toNat) * Rp.sz (List Int), none⟩))) (id := .v) (bd (α := (List Int)) (j := ((ab ((c.blocks.getD b default).ins.getD k default)).getD i 0)) rfl rfl rfl rfl (OS.sv N J.log0 (i := 1) rfl) (by first | (dsimp only; omega) | omega) (by first | (dsimp only; omega) | omega)) rfl rfl (dQ rfl) (cO _) ?_
      obtain ⟨ld, hX, hQ⟩ := Sv.at (OS.sv N J.log0 (i := 1) rfl) (aK (x := default) (show ((ab ((c.blocks.getD b default).ins.getD k default)).getD i 0).toNat < U.length from by first | (dsimp only; omega) | omega))
      obtain ⟨hg, hu, rfl, hA⟩ := hX
      refine aB (v := (.slice hg (U.getD (((ab ((c.blocks.getD b default).ins.getD k default)).getD i 0).toNat) default).length hu)) (id := .l (sB (.slice A U.length E))) (bt (i := 0) rfl rfl hQ rfl rfl) rfl rfl (bG rfl) (⟨.inl rfl, ⟨.inl rfl, ⟨.inl rfl, ⟨.inl rfl, ⟨.inl rfl, ⟨.inl rfl, ⟨.inr trivial, ⟨.inr trivial, ⟨.inr trivial, ⟨.inr trivial, ⟨.inr trivial, ⟨.inr trivial, ⟨.inr trivial, trivial⟩⟩⟩⟩⟩⟩⟩⟩⟩⟩⟩⟩⟩) ?_
      refine fm (iI ((z.getD ((k : Int) + 1).toNat default).getD j 0)) rfl rfl rfl ?_
      refine bj (W := []) (ap rfl rfl rfl) rfl rfl rfl (m6.cW ex (U.getD (((ab ((c.blocks.getD b default).ins.getD k default)).getD i 0).toNat) default) ((z.getD ((k : Int) + 1).toNat default).getD j 0) (HS.call J.log0) hA (by first | (dsimp only; omega) | omega) hT (by first | (dsimp only; omega) | omega)) (⟨.inl rfl, ⟨.inl rfl, ⟨.inl rfl, ⟨.inl rfl, ⟨.inl rfl, ⟨.inl rfl, ⟨.inl rfl, ⟨.inl rfl, ⟨.inr trivial, ⟨.inr trivial, ⟨.inr a0f, ⟨.inr trivial, ⟨.inr trivial, ⟨.inr trivial, ⟨.inr trivial, trivial⟩⟩⟩⟩⟩⟩⟩⟩⟩⟩⟩⟩⟩⟩⟩) ?_
      rintro _ i3 ⟨hG, ib, l1, lE, c0, Y, rfl, c5, rfl⟩
      refine ⟨Wr.did Y.log, fun ii hn => ?_⟩
      replace Y := HS.back J.log0 rfl Y
      replace Y := HS.lg Y J hn
      generalize ({ i3 with log := ii } : Heap) = k0 at Y ⊢
      have Y : HS _ _ _ [_, an, _, _] _ := Y
      replace hT := hT.mono c0
      replace T := T.mono c0
      replace N := N.mono c0
      refine fm (.slice A U.length E) rfl rfl rfl ?_
      refine fm (iI ((z.getD ((k : Int) + 1).toNat default).getD j 0)) rfl rfl rfl ?_
      refine aB (v := (.pointer (some ⟨sB (.slice A U.length E), sO (.slice A U.length E) + (((z.getD ((k : Int) + 1).toNat default).getD j 0).toNat) * Rp.sz (List Int), none⟩))) (id := .v) (bd (α := (List Int)) (j := ((z.getD ((k : Int) + 1).toNat default).getD j 0)) rfl rfl rfl rfl (OS.sv N Y.log0 (i := 1) rfl) (by first | (dsimp only; omega) | omega) (by first | (dsimp only; omega) | omega)) rfl rfl (dQ rfl) (cO _) ?_
      obtain ⟨lf, hY, hR⟩ := Sv.at (OS.sv N Y.log0 (i := 1) rfl) (aK (x := default) (show ((z.getD ((k : Int) + 1).toNat default).getD j 0).toNat < U.length from by first | (dsimp only; omega) | omega))
      obtain ⟨hl, hw, rfl, hB⟩ := hY
      refine aB (v := (.slice hl (U.getD (((z.getD ((k : Int) + 1).toNat default).getD j 0).toNat) default).length hw)) (id := .l (sB (.slice A U.length E))) (bt (i := 0) rfl rfl hR rfl rfl) rfl rfl (bG rfl) (⟨.inl rfl, ⟨.inl rfl, ⟨.inl rfl, ⟨.inr a0f, ⟨.inr trivial, ⟨.inr trivial, ⟨.inr trivial, ⟨.inr trivial, ⟨.inr trivial, ⟨.inr trivial, ⟨.inr trivial, ⟨.inr trivial, ⟨.inr trivial, ⟨.inr trivial, ⟨.inr trivial, ⟨.inr trivial, ⟨.inr trivial, ⟨.inr trivial, ⟨.inr trivial, trivial⟩⟩⟩⟩⟩⟩⟩⟩⟩⟩⟩⟩⟩⟩⟩⟩⟩⟩⟩) ?_
      refine fm (.slice V (ab ((c.blocks.getD b default).ins.getD k default)).length Z) rfl rfl rfl ?_
      refine fm (iI (i : Int)) rfl rfl rfl ?_
      refine aB (v := (.pointer (some ⟨sB (.slice V (ab ((c.blocks.getD b default).ins.getD k default)).length Z), sO (.slice V (ab ((c.blocks.getD b default).ins.getD k default)).length Z) + i * Rp.sz Int, none⟩))) (id := .v) (bd (α := Int) (j := (i : Int)) rfl rfl rfl rfl (OS.sv T Y.log0 (i := 3) rfl) (by first | (dsimp only; omega) | omega) (by first | (dsimp only; omega) | omega)) rfl rfl (dQ rfl) (cO _) ?_
      obtain ⟨lh, h3, hS⟩ := Sv.at (OS.sv T Y.log0 (i := 3) rfl) (aK (x := (0 : Int)) (show i < (ab ((c.blocks.getD b default).ins.getD k default)).length from by first | (dsimp only; omega) | omega))
      obtain ⟨rfl, kV⟩ := h3
      refine aB (v := (iI ((ab ((c.blocks.getD b default).ins.getD k default)).getD i 0))) (id := .l (sB (.slice V (ab ((c.blocks.getD b default).ins.getD k default)).length Z))) (bt (i := 0) rfl rfl hS rfl rfl) rfl rfl (bG rfl) (⟨.inl rfl, ⟨.inl rfl, ⟨.inl rfl, ⟨.inr trivial, ⟨.inr trivial, ⟨.inr trivial, ⟨.inr trivial, ⟨.inr a0f, ⟨.inr trivial, ⟨.inr trivial, ⟨.inr trivial, ⟨.inr trivial, ⟨.inr trivial, ⟨.inr trivial, ⟨.inr trivial, ⟨.inr trivial, ⟨.inr trivial, ⟨.inr trivial, ⟨.inr trivial, ⟨.inr trivial, ⟨.inr trivial, ⟨.inr trivial, ⟨.inr trivial, trivial⟩⟩⟩⟩⟩⟩⟩⟩⟩⟩⟩⟩⟩⟩⟩⟩⟩⟩⟩⟩⟩⟩⟩) ?_
      refine bj (W := []) (ap rfl rfl rfl) rfl rfl rfl (m6.cW ex (U.getD (((z.getD ((k : Int) + 1).toNat default).getD j 0).toNat) default) ((ab ((c.blocks.getD b default).ins.getD k default)).getD i 0) (HS.call Y.log0) hB (by first | (dsimp only; omega) | omega) hT (by first | (dsimp only; omega) | omega)) (⟨.inl rfl, ⟨.inl rfl, ⟨.inl rfl, ⟨.inl rfl, ⟨.inl rfl, ⟨.inl rfl, ⟨.inl rfl, ⟨.inl rfl, ⟨.inl rfl, ⟨.inl rfl, ⟨.inl rfl, ⟨.inl rfl, ⟨.inl rfl, ⟨.inl rfl, ⟨.inl rfl, ⟨.inl rfl, ⟨.inl rfl, ⟨.inr trivial, ⟨.inr trivial, ⟨.inr a0f, ⟨.inr trivial, ⟨.inr trivial, ⟨.inr trivial, ⟨.inr trivial, trivial⟩⟩⟩⟩⟩⟩⟩⟩⟩⟩⟩⟩⟩⟩⟩⟩⟩⟩⟩⟩⟩⟩⟩⟩) ?_
      rintro _ ja ⟨hH, ih, l2, lF, d2, al, rfl, ht, rfl⟩
      refine ⟨Wr.did al.log, fun ik hp => ?_⟩
      replace al := HS.back Y.log0 rfl al
      replace al := HS.lg al Y hp
      generalize ({ ja with log := ik } : Heap) = k3 at al ⊢
      have al : HS _ _ _ [_, _, _, _] _ := al
      replace c5 := c5.mono d2
      replace N := N.mono d2
      refine aB (v := (.pointer (some ⟨sB (.slice A U.length E), sO (.slice A U.length E) + (((ab ((c.blocks.getD b default).ins.getD k default)).getD i 0).toNat) * Rp.sz (List Int), none⟩))) (id := .v) (bd (α := (List Int)) (j := ((ab ((c.blocks.getD b default).ins.getD k default)).getD i 0)) rfl rfl rfl rfl (OS.sv N al.log0 (i := 1) rfl) (by first | (dsimp only; omega) | omega) (by first | (dsimp only; omega) | omega)) rfl rfl (dQ rfl) (cO _) ?_
      refine iu (id := .x (an.map Prod.fst)) (bY (α := (List Int)) (j := ((ab ((c.blocks.getD b default).ins.getD k default)).getD i 0).toNat) (off := 0) (q := 1) (cY (U.getD (((ab ((c.blocks.getD b default).ins.getD k default)).getD i 0).toNat) default) ((z.getD ((k : Int) + 1).toNat default).getD j 0)) N al.log0 rfl rfl rfl rfl rfl rfl rfl rfl (aK (x := default) (by first | (dsimp only; omega) | omega)) rfl (by rintro cs ⟨_, _, rfl, _⟩; exact ⟨a04 rfl, ⟨hG, ib, rfl, c5⟩⟩)) rfl (by rintro _ _ he ⟨c3, _, hwr⟩; exact cz rfl rfl (Wr.did hwr)) (⟨.inl rfl, ⟨.inl rfl, ⟨.inl rfl, ⟨.inl rfl, ⟨.inl rfl, ⟨.inl rfl, ⟨.inl rfl, ⟨.inl rfl, ⟨.inl rfl, ⟨.inl rfl, ⟨.inl rfl, ⟨.inl rfl, ⟨.inl rfl, ⟨.inl rfl, ⟨.inl rfl, ⟨.inl rfl, ⟨.inl rfl, ⟨.inl rfl, ⟨.inl rfl, ⟨.inr trivial, ⟨.inr trivial, ⟨.inl rfl, ⟨.inl rfl, ⟨.inl rfl, ⟨.inl rfl, ⟨.inl rfl, trivial⟩⟩⟩⟩⟩⟩⟩⟩⟩⟩⟩⟩⟩⟩⟩⟩⟩⟩⟩⟩⟩⟩⟩⟩⟩⟩) ?_
      rintro _ jb he ⟨c3, a2, _⟩ il hq
      replace a2 := HS.lg a2 al hq
      generalize ({ jb with log := il } : Heap) = k4 at a2 ⊢
      have a2 : HS _ _ _ [_, he, _, _] _ := a2
      have kW := OS.len' c3
      refine aB (v := (.pointer (some ⟨sB (.slice A U.length E), sO (.slice A U.length E) + (((z.getD ((k : Int) + 1).toNat default).getD j 0).toNat) * Rp.sz (List Int), none⟩))) (id := .v) (bd (α := (List Int)) (j := ((z.getD ((k : Int) + 1).toNat default).getD j 0)) rfl rfl rfl rfl (OS.sv c3 a2.log0 (i := 1) rfl) (by first | (dsimp only; omega) | omega) (by first | (dsimp only; omega) | omega)) rfl rfl (dQ rfl) (cO _) ?_
      refine iu (id := .x (he.map Prod.fst)) (bY (α := (List Int)) (j := ((z.getD ((k : Int) + 1).toNat default).getD j 0).toNat) (off := 0) (q := 1) (cY (U.getD (((z.getD ((k : Int) + 1).toNat default).getD j 0).toNat) default) ((ab ((c.blocks.getD b default).ins.getD k default)).getD i 0)) c3 a2.log0 rfl rfl rfl rfl rfl rfl rfl rfl (aK (x := default) (by first | (dsimp only; omega) | omega)) rfl (by rintro cs ⟨_, _, rfl, _⟩; exact ⟨a04 rfl, ⟨hH, ih, rfl, ht⟩⟩)) rfl (by rintro _ _ hf ⟨c4, _, hwr⟩; exact cz rfl rfl (Wr.did hwr)) (⟨.inl rfl, ⟨.inl rfl, ⟨.inl rfl, ⟨.inl rfl, ⟨.inl rfl, ⟨.inl rfl, ⟨.inl rfl, ⟨.inl rfl, ⟨.inl rfl, ⟨.inl rfl, ⟨.inl rfl, ⟨.inl rfl, ⟨.inl rfl, ⟨.inl rfl, ⟨.inl rfl, ⟨.inl rfl, ⟨.inl rfl, ⟨.inl rfl, ⟨.inl rfl, ⟨.inl rfl, ⟨.inl rfl, ⟨.inl rfl, ⟨.inl rfl, ⟨.inl rfl, ⟨.inl rfl, ⟨.inl rfl, ⟨.inl rfl, ⟨.inl rfl, trivial⟩⟩⟩⟩⟩⟩⟩⟩⟩⟩⟩⟩⟩⟩⟩⟩⟩⟩⟩⟩⟩⟩⟩⟩⟩⟩⟩⟩) ?_
      rintro _ jc hf ⟨c4, b3, _⟩ it hr
      replace b3 := HS.lg b3 a2 hr
      generalize ({ jc with log := it } : Heap) = k5 at b3 ⊢
      have b3 : HS _ _ _ [_, hf, _, _] _ := b3
      have kX := OS.len' c4
      refine cu ?_
      refine ah 2 rfl ?_
      refine wU 1 [] 62 63 [10] [(10, (iI ((j : Int) + 1)))] (vi (n := (j : Int) + 1) (by first | (dsimp only; omega) | omega)) rfl fun _ => ?_
      refine g9 _ _ _ ?_ ⟨(U.set (((ab ((c.blocks.getD b default).ins.getD k default)).getD i 0).toNat) (cY (U.getD (((ab ((c.blocks.getD b default).ins.getD k default)).getD i 0).toNat) default) ((z.getD ((k : Int) + 1).toNat default).getD j 0))).set (((z.getD ((k : Int) + 1).toNat default).getD j 0).toNat) (cY (U.getD (((z.getD ((k : Int) + 1).toNat default).getD j 0).toNat) default) ((ab ((c.blocks.getD b default).ins.getD k default)).getD i 0)), j + 1, A, E, hf, _, (fT (fT (b2) c0) d2), b3, (OS.norm c4), (agC rfl (agC (show Value.slice A U.length E = Value.slice A ((U.set (((ab ((c.blocks.getD b default).ins.getD k default)).getD i 0).toNat) (cY (U.getD (((ab ((c.blocks.getD b default).ins.getD k default)).getD i 0).toNat) default) ((z.getD ((k : Int) + 1).toNat default).getD j 0))).set (((z.getD ((k : Int) + 1).toNat default).getD j 0).toNat) (cY (U.getD (((z.getD ((k : Int) + 1).toNat default).getD j 0).toNat) default) ((ab ((c.blocks.getD b default).ins.getD k default)).getD i 0))).length E by rw [OS.len' c4]) (agC rfl (agC rfl (agC rfl (agC rfl (agC rfl (agC rfl (agC rfl agN))))))))), rfl, (by first | exact rl_yes vF (by omega) b6 hne hwl hyl | exact rl_no (by omega) b6 hne), (by first | assumption | omega | (simp at *; omega))⟩
      omega
     have c8 := dv
     try simp only [BS] at c8
     have d3 := c8
     have hne : ¬ eok c b k ((ab ((c.blocks.getD b default).ins.getD k default)).getD i 0) (((z).getD (((k : Nat) : Int) + 1).toNat default).getD j 0) := fun h => by (have h1 := h.1; have h2 := h.2; simp_all)
     refine wU 1 [] 62 63 [10] [(10, (iI ((j : Int) + 1)))] (vi (n := (j : Int) + 1) (by first | (dsimp only; omega) | omega)) rfl fun _ => ?_
     refine g9 _ _ _ ?_ ⟨U, j + 1, A, E, an, _, (b2), J, N, (agC rfl (agC rfl (agC rfl (agC rfl (agC rfl (agC rfl (agC rfl (agC rfl (agC rfl agN))))))))), rfl, (by first | exact rl_yes vF (by omega) b6 hne hwl hyl | exact rl_no (by omega) b6 hne), (by first | assumption | omega | (simp at *; omega))⟩
     omega
    have fi := dt
    try simp only [BS] at fi
    refine wU 1 [] 54 55 [9] [(9, (iI ((i : Int) + 1)))] (vi (n := (i : Int) + 1) (by first | (dsimp only; omega) | omega)) rfl fun _ => ?_
    refine h9 _ _ _ ?_ ⟨U, i + 1, A, E, an, _, (fT (b9) b2), J, N, (agC rfl (agC rfl (agC rfl (agC rfl (agC rfl (agC rfl (agC rfl (agC rfl agN)))))))), rfl, (by exact b6.iff (e2s_iff pt (show i < (ab ((c.blocks.getD b default).ins.getD k default)).length by omega) (by omega))), (by first | assumption | omega | (simp at *; omega))⟩
    omega
   have fd := ds
   try simp only [BS] at fd
   refine wU 1 [] 37 38 [6] [(6, (iI ((k : Int) + 1)))] (vi (n := (k : Int) + 1) (by first | (dsimp only; omega) | omega)) rfl fun _ => ?_
   refine h8 _ _ _ ?_ ⟨g3, k + 1, a5, a7, bb, _, (fT (fT (b7) co) b9), (HS.sub go (a05 _ _)), dk, (agC rfl (agC rfl (agC rfl (agC rfl (agC rfl agN))))), rfl, (by exact hE.iff (e1s_iff (show (ab ((c.blocks.getD b default).ins.getD k default)).length ≤ i by omega))), (by first | assumption | omega | (simp at *; omega))⟩
   omega
  have e6 := dn
  try simp only [BS] at e6
  refine wU 1 [] 23 24 [4] [(4, (iI ((b : Int) + 1)))] (vi (n := (b : Int) + 1) (by first | (dsimp only; omega) | omega)) rfl fun _ => ?_
  refine h7 _ _ _ ?_ ⟨g2, b + 1, a4, a6, a0, _, (fT (fT (ci) cl) b7), av, bl, (agC rfl (agC rfl (agC rfl agN))), rfl, (by exact hD.iff (e0_iff (show (c.blocks.getD b default).ins.length = k by omega))), (by first | assumption | omega | (simp at *; omega))⟩
  omega
 have e5 := dl
 try simp only [BS] at e5
 refine wT 1 [] 2 2 [117] [(2, (.slice ax g1.length ay))] rfl fun _ => ?_
 obtain ⟨lG, hI, es, h4, lq⟩ := OS.frz bk cc (i := 1) rfl
 have es : HS _ _ _ [_, []] _ := es
 refine ak ⟨.inr rfl, _, rfl, ax, ay, g1, _, (fT (fT (et) ci) hI), (HS.forget es), rfl, h4, (by first | exact fun h => absurd (h.symm.trans hv) (by decide) | exact fun _ => rl_fin (by omega) hb f8), (by first | exact fun _ => rfl | exact fun h => absurd (hv.symm.trans h) (by decide))⟩
set_option maxHeartbeats 2000000 in
theorem ruses_c {z : Option Addr} {A : Nat} (c : VFnT) (hs : HS (.of H []) F H [] R) (lm : in64 c.params) (ln : in64 c.regs) (E : SR F (.slice z c.blocks.length A) c.blocks) (hT : TB 37 tabC F) (hins : ∀ j, (c.blocks.getD j default).ins.length ≤ 1073741822) : kKt ex 24 [(.agg ⟨[(iI c.params), (iI c.regs), (.slice z c.blocks.length A)]⟩)] H fun v H' => ∃ (ao : Option Addr) (ko : Nat) (o : List Int) (F' : Fz), Fz.le F F' ∧ HS (.of H []) F' H' [] R ∧ v = .slice ao o.length ko ∧ SR F' (.slice ao o.length ko) o ∧ (cx c = true → CntF c (usedC c) o) ∧ (cx c = false → o = []) := by
 refine aI Tryd.func24 rfl rfl ?_
 refine ah 1 rfl ?_
 refine aa ?_
 refine aH (bw hs rfl rfl) rfl rfl ?_
 rintro _ H2 _ ⟨b1, rfl, (f2 : HS _ _ _ [[(b1, .cells [(iI c.params), (iI c.regs), (.slice z c.blocks.length A)] none false)]] _), _⟩
 refine wa (.slice none 0 0) rfl rfl rfl ?_
 refine ae 3 rfl ?_
 refine aa ?_
 let hC : Value := (.agg ⟨[(iI c.params), (iI c.regs), (.slice z c.blocks.length A)]⟩)
 refine wUo 1 0 [(0, .o hC)] 10 10 [] [(10, hC)] (qn 24 0 3 (HS.hc f2 (i := 0) rfl) rfl rfl rfl rfl) rfl fun _ => ?_
 refine az (ap rfl rfl rfl) rfl rfl (m3.hU ex c (HS.call f2) (by first | (dsimp only; omega) | omega) (by first | (dsimp only; omega) | omega) E hT (by exact fun j => a0b (hins j) (by omega))) ?_
 rintro _ H4 ⟨r4, F4, d1, ch, rfl, rfl⟩
 replace ch : HS _ _ _ [_] _ := HS.back f2 rfl ch
 replace hT := hT.mono d1
 replace E := E.mono d1
 refine wTo 1 2 [] 12 12 [] [(12, (.bool (!(cx c))))] rfl fun _ => ?_
 refine ae 1 rfl ?_
 refine am 1 2 (v := (!(cx c))) rfl rfl rfl rfl (fun e3 => ?_) (fun e3 => ?_)
 ·
  have c6 := e3
  try simp only [BS] at c6
  have hv := c6
  refine wT 1 [] 2 2 [] [(2, (.slice none 0 0))] rfl fun _ => ?_
  refine ak ⟨.inr rfl, _, rfl, none, 0, ([] : List Int), _, (d1), (HS.forget ch), rfl, (SR.nil : SR F4 (.slice none 0 0) ([] : List Int)), (by first | exact fun h => absurd (h.symm.trans hv) (by decide) | exact fun _ => us_all (c := c) (k := b) (by omega) ▸ c1), (by first | exact fun _ => rfl | exact fun h => absurd (hv.symm.trans h) (by decide))⟩
 have c6 := e3
 try simp only [BS] at c6
 have hv := c6
 have vF := iA hv
 have hnb := vF.nb
 have hrg := vF.regs
 have hn : ∀ j, (bQ c j).ins.length ≤ 1073741824 := fun j => a0b (hins j) (by omega)
 refine aa ?_
 refine wUo 2 0 [(1, .o (iI c.regs))] 13 14 [] [(14, (iI c.regs))] (ql 3 1 (HS.hc ch (i := 0) rfl) rfl rfl) rfl fun _ => ?_
 refine aH (dg (0 : Int) ch rfl rfl rfl rfl rfl rfl rfl rfl rfl ⟨rfl, by decide⟩ (by first | (dsimp only; omega) | omega) (by first | (dsimp only; omega) | omega)) rfl rfl ?_
 rintro _ lE p9 ⟨a9, k9, rfl, iz, (hV : HS _ _ _ [_, p9] _), _⟩
 refine wa (.slice a9 (List.replicate c.regs.toNat (0 : Int)).length k9) rfl rfl rfl ?_
 refine ae 3 rfl ?_
 refine wT 2 [] 1 0 [4] [(4, (iI 0))] rfl fun _ => ?_
 let ea : Fp := [(b1, .cells [(iI c.params), (iI c.regs), (.slice z c.blocks.length A)] none false)]
 refine aj (fun (mm : Nat) f H' => ∃ (o1 : List Int) (b : Nat) (ag : Option Addr) (an : Nat) (a5 : Fp) (F' : Fz), Fz.le F4 F' ∧ HS (Base.of H []) F' H' [ea, a5] R ∧ OS F' (.slice ag o1.length an) o1 a5 ∧ aD f [(1, (.pointer (some ⟨b1, 0, none⟩))), (3, (.slice ag o1.length an)), (4, (iI (b : Int)))] ∧ mm = c.blocks.length - b ∧ (CntF c (UsP c b 0 []) o1) ∧ (b ≤ c.blocks.length)) _ ⟨List.replicate c.regs.toNat (0 : Int), 0, a9, k9, p9, _, fR, hV, iz, (agC rfl (agC rfl (agC rfl agN))), rfl, (by exact ge), (by first | assumption | omega | (simp at *; omega))⟩ ?_
 rintro lu lM lF ⟨o1, b, ag, an, a5, h8, b7, dn, ci, fd, rfl, c1, hb⟩ hY
 refine au _ fd (fun _ => ?_)
 clear fd
 replace hT := hT.mono b7
 replace E := E.mono b7
 refine ah 2 rfl ?_
 refine wU 1 [(2, .o (.slice z c.blocks.length A))] 16 20 [] [(20, (.bool (decide ((b : Int) < (c.blocks.length : Int)))))] (ql 22 2 (HS.hc dn (i := 0) rfl) rfl rfl) rfl fun _ => ?_
 refine am 5 5 (v := (decide ((b : Int) < (c.blocks.length : Int)))) rfl rfl rfl rfl (fun co => ?_) (fun co => ?_)
 ·
  have et := co
  try simp only [BS] at et
  have hbn : b < c.blocks.length := by omega
  have hbl := hins b
  have hel : (df (c.blocks.getD b default)).length ≤ 1 := by unfold df; split <;> simp
  refine wT 2 [] 1 0 [5] [(5, (iI 0))] rfl fun _ => ?_
  refine aj (fun (mm : Nat) f H' => ∃ (o2 : List Int) (k : Nat) (av : Option Addr) (a0 : Nat) (ad : Fp) (F' : Fz), Fz.le h8 F' ∧ HS (Base.of H []) F' H' [ea, ad] R ∧ OS F' (.slice av o2.length a0) o2 ad ∧ aD f [(1, (.pointer (some ⟨b1, 0, none⟩))), (3, (.slice av o2.length a0)), (4, (iI (b : Int))), (5, (iI (k : Int)))] ∧ mm = (c.blocks.getD b default).ins.length - k ∧ (CntF c (UsP c b k []) o2) ∧ (k ≤ (c.blocks.getD b default).ins.length)) _ ⟨o1, 0, ag, an, a5, _, fR, dn, ci, (agC rfl (agC rfl (agC rfl (agC rfl agN)))), rfl, (by first | assumption | omega | (simp at *; omega)), (by first | assumption | omega | (simp at *; omega))⟩ ?_
  rintro lv lN lG ⟨o2, k, av, a0, ad, lA, b9, J, al, fi, rfl, c2, hk⟩ h1
  refine au _ fi (fun _ => ?_)
  clear fi
  replace hT := hT.mono b9
  replace E := E.mono b9
  refine ah 2 rfl ?_
  obtain ⟨e4, f3⟩ := Sv.view (SR.sv E J)
  obtain ⟨i3, ja, jb, jc, k0⟩ := BlkT.fx (f3 b)
  refine wR 1 [(2, .o (.slice z c.blocks.length A)), (6, .o (.slice (cA (e4 b) 0) (c.blocks.getD b default).ins.length (cK (e4 b) 0)))] 23 31 [] [(31, (.bool (decide ((k : Int) < ((c.blocks.getD b default).ins.length : Int)))))] (vA (ql 22 2 (HS.hc J (i := 0) rfl) rfl rfl) (vA (Sv.ix (j := (b : Int)) (SR.sv E J) (by first | (dsimp only; omega) | omega) (by first | (dsimp only; omega) | omega)) (vA (ql 46 0 (BlkT.vw (f3 b) (by first | (dsimp only; omega) | omega)) rfl rfl) trivial))) rfl fun _ => ?_
  refine am 4 5 (v := (decide ((k : Int) < ((c.blocks.getD b default).ins.length : Int)))) rfl rfl rfl rfl (fun c0 => ?_) (fun c0 => ?_)
  ·
   have ez := c0
   try simp only [BS] at ez
   have hnn : k < (c.blocks.getD b default).ins.length := by omega
   have hvl : (∀ x ∈ aw ((c.blocks.getD b default).ins.getD k default), 0 ≤ x ∧ x < c.regs) ∧ (∀ x ∈ ab ((c.blocks.getD b default).ins.getD k default), 0 ≤ x ∧ x < c.regs) ∧ ((c.blocks.getD b default).ins.getD k default).args.length ≤ 6 := bR (vF.ins b hbn k hnn)
   have hrl := ej (v := ((c.blocks.getD b default).ins.getD k default))
   have hwl := cG (v := ((c.blocks.getD b default).ins.getD k default))
   have hal : (aw ((c.blocks.getD b default).ins.getD k default) ++ ab ((c.blocks.getD b default).ins.getD k default)).length = (aw ((c.blocks.getD b default).ins.getD k default)).length + (ab ((c.blocks.getD b default).ins.getD k default)).length := a06
   have hax : ∀ x ∈ (aw ((c.blocks.getD b default).ins.getD k default) ++ ab ((c.blocks.getD b default).ins.getD k default)), 0 ≤ x ∧ x < c.regs := fun x hx => (a09.1 hx).elim (hvl.1 x) (hvl.2.1 x)
   refine aY rfl ?_
   refine aB (v := (.pointer (some ⟨b1, 2, none⟩))) (id := .v) (dG rfl rfl) rfl rfl (dQ rfl) (cO _) ?_
   refine aB (v := (.slice z c.blocks.length A)) (id := .l b1) (bt (i := 2) rfl rfl (HS.hc J.log0 (i := 0) rfl) rfl rfl) rfl rfl (bG rfl) (⟨.inl rfl, trivial⟩) ?_
   refine fm (iI (b : Int)) rfl rfl rfl ?_
   refine aB (v := (.pointer (some ⟨sB (.slice z c.blocks.length A), sO (.slice z c.blocks.length A) + b * Rp.sz BlkT, none⟩))) (id := .v) (bd (α := BlkT) (j := (b : Int)) rfl rfl rfl rfl (SR.sv E J.log0) (by first | (dsimp only; omega) | omega) (by first | (dsimp only; omega) | omega)) rfl rfl (dQ rfl) (cO _) ?_
   refine aB (v := (.pointer (some ⟨sB (.slice z c.blocks.length A), sO (.slice z c.blocks.length A) + b * Rp.sz BlkT, none⟩))) (id := .v) (dG rfl rfl) rfl rfl (dQ rfl) (cO _) ?_
   obtain ⟨lf, hK, hF⟩ := Sv.at (SR.sv E J.log0) (aK (x := default) (show b < c.blocks.length from by first | (dsimp only; omega) | omega))
   obtain ⟨bk, b0, rfl, jq, jw, j0, j1, d3⟩ := hK
   refine aB (v := (.slice bk (c.blocks.getD b default).ins.length b0)) (id := .l (sB (.slice z c.blocks.length A))) (bt (i := 0) rfl rfl hF rfl rfl) rfl rfl (bG rfl) (⟨.inl rfl, ⟨.inl rfl, ⟨.inl rfl, ⟨.inl rfl, ⟨.inl rfl, trivial⟩⟩⟩⟩⟩) ?_
   refine fm (iI (k : Int)) rfl rfl rfl ?_
   refine aB (v := (.pointer (some ⟨sB (.slice bk (c.blocks.getD b default).ins.length b0), sO (.slice bk (c.blocks.getD b default).ins.length b0) + k * Rp.sz VInT, none⟩))) (id := .v) (bd (α := VInT) (j := (k : Int)) rfl rfl rfl rfl (SR.sv d3 J.log0) (by first | (dsimp only; omega) | omega) (by first | (dsimp only; omega) | omega)) rfl rfl (dQ rfl) (cO _) ?_
   obtain ⟨lh, hM, hG⟩ := Sv.at (SR.sv d3 J.log0) (aK (x := default) (show k < (c.blocks.getD b default).ins.length from by first | (dsimp only; omega) | omega))
   obtain ⟨g1, he, rfl, j2, kc, kd, kg, ki, hg⟩ := hM
   refine aB (v := (.agg ⟨[(iI ((c.blocks.getD b default).ins.getD k default).i.op), (iI ((c.blocks.getD b default).ins.getD k default).i.a), (iI ((c.blocks.getD b default).ins.getD k default).i.b), (iI ((c.blocks.getD b default).ins.getD k default).i.c), (iI ((c.blocks.getD b default).ins.getD k default).i.n), (.slice g1 ((c.blocks.getD b default).ins.getD k default).args.length he)]⟩)) (id := .l (sB (.slice bk (c.blocks.getD b default).ins.length b0))) (dL (i := 0) rfl rfl rfl hG rfl rfl rfl) rfl rfl (bG rfl) (⟨.inl rfl, ⟨.inl rfl, ⟨.inl rfl, ⟨.inl rfl, ⟨.inl rfl, ⟨.inl rfl, ⟨.inl rfl, ⟨.inl rfl, trivial⟩⟩⟩⟩⟩⟩⟩⟩) ?_
   refine bj (W := []) (ap rfl rfl rfl) rfl rfl rfl (ma.rreads_c ex ((c.blocks.getD b default).ins.getD k default) (HS.call J.log0) (by first | (dsimp only; omega) | omega) (by first | (dsimp only; omega) | omega) (by first | (dsimp only; omega) | omega) (by first | (dsimp only; omega) | omega) (by first | (dsimp only; omega) | omega) hg hT (by first | (dsimp only; omega) | omega)) (⟨.inl rfl, ⟨.inl rfl, ⟨.inl rfl, ⟨.inl rfl, ⟨.inl rfl, ⟨.inl rfl, ⟨.inl rfl, ⟨.inl rfl, ⟨.inl rfl, trivial⟩⟩⟩⟩⟩⟩⟩⟩⟩) ?_
   rintro _ ii ⟨k7, lq, lW, hl, cc, ar, rfl, g9, rfl⟩
   refine ⟨Wr.did ar.log, fun h4 g5 => ?_⟩
   replace ar := HS.back J.log0 rfl ar
   replace ar := HS.lg ar J g5
   generalize ({ ii with log := h4 } : Heap) = k3 at ar ⊢
   have ar : HS _ _ _ [_, ad] _ := ar
   replace hT := hT.mono cc
   replace E := E.mono cc
   have b4 := HS.snoc ar
   have b4 : HS _ _ _ [_, _, []] _ := b4
   refine cg (id := .x []) (bC (α := Int) (q := 2) (OS.nil : OS hl (.slice none 0 0) ([] : List Int) []) b4.log0 rfl rfl rfl (SR.sv g9 b4.log0) rfl rfl rfl rfl rfl rfl rfl (by first | omega | (simp only [a06, a0a, a0g]; omega))) rfl rfl (by rintro _ _ d2 ⟨hm, hu, rfl, a8, _, hwr⟩; exact cz rfl rfl (Wr.did hwr)) (⟨.inl rfl, ⟨.inl rfl, ⟨.inl rfl, ⟨.inl rfl, ⟨.inl rfl, ⟨.inl rfl, ⟨.inl rfl, ⟨.inl rfl, ⟨.inl rfl, ⟨.inl rfl, trivial⟩⟩⟩⟩⟩⟩⟩⟩⟩⟩) ?_
   rintro _ ik d2 ⟨hm, hu, rfl, a8, Y, _⟩ h5 g6
   replace Y := HS.lg Y b4 g6
   generalize ({ ik with log := h5 } : Heap) = k4 at Y ⊢
   have Y : HS _ _ _ [_, _, d2] _ := Y
   have a8 : OS hl (.slice hm (aw ((c.blocks.getD b default).ins.getD k default)).length hu) (aw ((c.blocks.getD b default).ins.getD k default)) d2 := a8
   refine aB (v := (.pointer (some ⟨b1, 2, none⟩))) (id := .v) (dG rfl rfl) rfl rfl (dQ rfl) (cO _) ?_
   refine aB (v := (.slice z c.blocks.length A)) (id := .l b1) (bt (i := 2) rfl rfl (HS.hc Y.log0 (i := 0) rfl) rfl rfl) rfl rfl (bG rfl) (⟨.inl rfl, ⟨.inr a0f, ⟨.inr a0f, ⟨.inr trivial, ⟨.inr trivial, ⟨.inr trivial, ⟨.inr trivial, ⟨.inr trivial, ⟨.inr trivial, ⟨.inr trivial, ⟨.inr trivial, ⟨.inr trivial, trivial⟩⟩⟩⟩⟩⟩⟩⟩⟩⟩⟩⟩) ?_
   refine fm (iI (b : Int)) rfl rfl rfl ?_
   refine aB (v := (.pointer (some ⟨sB (.slice z c.blocks.length A), sO (.slice z c.blocks.length A) + b * Rp.sz BlkT, none⟩))) (id := .v) (bd (α := BlkT) (j := (b : Int)) rfl rfl rfl rfl (SR.sv E Y.log0) (by first | (dsimp only; omega) | omega) (by first | (dsimp only; omega) | omega)) rfl rfl (dQ rfl) (cO _) ?_
   refine aB (v := (.pointer (some ⟨sB (.slice z c.blocks.length A), sO (.slice z c.blocks.length A) + b * Rp.sz BlkT, none⟩))) (id := .v) (dG rfl rfl) rfl rfl (dQ rfl) (cO _) ?_
   obtain ⟨lj, hQ, hH⟩ := Sv.at (SR.sv E Y.log0) (aK (x := default) (show b < c.blocks.length from by first | (dsimp only; omega) | omega))
   obtain ⟨bl, b2, rfl, kk, kl, kn, kr, d4⟩ := hQ
   refine aB (v := (.slice bl (c.blocks.getD b default).ins.length b2)) (id := .l (sB (.slice z c.blocks.length A))) (bt (i := 0) rfl rfl hH rfl rfl) rfl rfl (bG rfl) (⟨.inl rfl, ⟨.inl rfl, ⟨.inl rfl, ⟨.inl rfl, ⟨.inl rfl, ⟨.inr a0f, ⟨.inr a0f, ⟨.inr trivial, ⟨.inr trivial, ⟨.inr trivial, ⟨.inr trivial, ⟨.inr trivial, ⟨.inr trivial, ⟨.inr trivial, ⟨.inr trivial, ⟨.inr trivial, trivial⟩⟩⟩⟩⟩⟩⟩⟩⟩⟩⟩⟩⟩⟩⟩⟩) ?_
   refine fm (iI (k : Int)) rfl rfl rfl ?_
   refine aB (v := (.pointer (some ⟨sB (.slice bl (c.blocks.getD b default).ins.length b2), sO (.slice bl (c.blocks.getD b default).ins.length b2) + k * Rp.sz VInT, none⟩))) (id := .v) (bd (α := VInT) (j := (k : Int)) rfl rfl rfl rfl (SR.sv d4 Y.log0) (by first | (dsimp only; omega) | omega) (by first | (dsimp only; omega) | omega)) rfl rfl (dQ rfl) (cO _) ?_
   obtain ⟨ll, hR, hI⟩ := Sv.at (SR.sv d4 Y.log0) (aK (x := default) (show k < (c.blocks.getD b default).ins.length from by first | (dsimp only; omega) | omega))
   obtain ⟨g2, hf, rfl, kx, ky, kz, kS, kT, hh⟩ := hR
   refine aB (v := (.agg ⟨[(iI ((c.blocks.getD b default).ins.getD k default).i.op), (iI ((c.blocks.getD b default).ins.getD k default).i.a), (iI ((c.blocks.getD b default).ins.getD k default).i.b), (iI ((c.blocks.getD b default).ins.getD k default).i.c), (iI ((c.blocks.getD b default).ins.getD k default).i.n), (.slice g2 ((c.blocks.getD b default).ins.getD k default).args.length hf)]⟩)) (id := .l (sB (.slice bl (c.blocks.getD b default).ins.length b2))) (dL (i := 0) rfl rfl rfl hI rfl rfl rfl) rfl rfl (bG rfl) (⟨.inl rfl, ⟨.inl rfl, ⟨.inl rfl, ⟨.inl rfl, ⟨.inl rfl, ⟨.inl rfl, ⟨.inl rfl, ⟨.inl rfl, ⟨.inr a0f, ⟨.inr a0f, ⟨.inr trivial, ⟨.inr trivial, ⟨.inr trivial, ⟨.inr trivial, ⟨.inr trivial, ⟨.inr trivial, ⟨.inr trivial, ⟨.inr trivial, ⟨.inr trivial, trivial⟩⟩⟩⟩⟩⟩⟩⟩⟩⟩⟩⟩⟩⟩⟩⟩⟩⟩⟩) ?_
   refine bj (W := []) (ap rfl rfl rfl) rfl rfl rfl (ma.iF ex ((c.blocks.getD b default).ins.getD k default) (HS.call Y.log0) (by first | (dsimp only; omega) | omega) (by first | (dsimp only; omega) | omega) (by first | (dsimp only; omega) | omega) (by first | (dsimp only; omega) | omega) (by first | (dsimp only; omega) | omega) hh hT) (⟨.inl rfl, ⟨.inl rfl, ⟨.inl rfl, ⟨.inl rfl, ⟨.inl rfl, ⟨.inl rfl, ⟨.inl rfl, ⟨.inl rfl, ⟨.inl rfl, ⟨.inl rfl, ⟨.inl rfl, ⟨.inl rfl, ⟨.inl rfl, ⟨.inl rfl, ⟨.inl rfl, ⟨.inl rfl, ⟨.inl rfl, ⟨.inl rfl, ⟨.inl rfl, ⟨.inl rfl, trivial⟩⟩⟩⟩⟩⟩⟩⟩⟩⟩⟩⟩⟩⟩⟩⟩⟩⟩⟩⟩) ?_
   rintro _ il ⟨k8, lr, lX, hw, h9, c8, Z, rfl, ha, rfl⟩
   refine ⟨Wr.did Z.log, fun h6 g7 => ?_⟩
   replace Z := HS.back Y.log0 rfl Z
   replace Z := HS.lg Z Y g7
   generalize ({ il with log := h6 } : Heap) = k5 at Z ⊢
   have Z : HS _ _ _ [_, _, _, hw] _ := Z
   replace a8 := a8.mono c8
   replace al := (al.mono cc).mono c8
   refine cg (id := .x (d2.map Prod.fst)) (bC (α := Int) (q := 2) a8 Z.log0 rfl rfl rfl (OS.sv ha Z.log0 (i := 3) rfl) rfl rfl rfl rfl rfl rfl rfl (by first | omega | (simp only [a06, a0a, a0g]; omega))) rfl rfl (by rintro _ _ g0 ⟨em, f9, rfl, b3, _, hwr⟩; exact cz rfl rfl (Wr.did hwr)) (⟨.inl rfl, ⟨.inl rfl, ⟨.inl rfl, ⟨.inl rfl, ⟨.inl rfl, ⟨.inl rfl, ⟨.inl rfl, ⟨.inl rfl, ⟨.inl rfl, ⟨.inl rfl, ⟨.inl rfl, ⟨.inl rfl, ⟨.inl rfl, ⟨.inl rfl, ⟨.inl rfl, ⟨.inl rfl, ⟨.inl rfl, ⟨.inl rfl, ⟨.inl rfl, ⟨.inl rfl, ⟨.inl rfl, trivial⟩⟩⟩⟩⟩⟩⟩⟩⟩⟩⟩⟩⟩⟩⟩⟩⟩⟩⟩⟩⟩) ?_
   rintro _ it g0 ⟨em, f9, rfl, b3, bb, _⟩ h7 g8
   replace bb := HS.lg bb Z g8
   generalize ({ it with log := h7 } : Heap) = k6 at bb ⊢
   have bb : HS _ _ _ [_, _, g0, _] _ := bb
   refine fa (.slice em ((aw ((c.blocks.getD b default).ins.getD k default)) ++ (ab ((c.blocks.getD b default).ins.getD k default))).length f9) rfl rfl rfl ?_
   refine cu ?_
   refine ah 2 rfl ?_
   refine wT 2 [] 1 0 [7] [(7, (iI 0))] rfl fun _ => ?_
   refine aj (fun (mm : Nat) f H' => ∃ (o3 : List Int) (p : Nat) (N : Option Addr) (U : Nat) (a6 : Fp) (F' : Fz), Fz.le h9 F' ∧ HS (Base.of H []) F' H' [ea, a6, g0, hw] R ∧ OS F' (.slice N o3.length U) o3 a6 ∧ aD f [(1, (.pointer (some ⟨b1, 0, none⟩))), (3, (.slice N o3.length U)), (4, (iI (b : Int))), (5, (iI (k : Int))), (6, (.slice em ((aw ((c.blocks.getD b default).ins.getD k default)) ++ (ab ((c.blocks.getD b default).ins.getD k default))).length f9)), (7, (iI (p : Int)))] ∧ mm = (aw ((c.blocks.getD b default).ins.getD k default) ++ ab ((c.blocks.getD b default).ins.getD k default)).length - p ∧ (CntF c (UsP c b k ((aw ((c.blocks.getD b default).ins.getD k default) ++ ab ((c.blocks.getD b default).ins.getD k default)).take p)) o3) ∧ (p ≤ (aw ((c.blocks.getD b default).ins.getD k default) ++ ab ((c.blocks.getD b default).ins.getD k default)).length)) _ ⟨o2, 0, av, a0, ad, _, fR, bb, al, (agC rfl (agC rfl (agC rfl (agC rfl (agC rfl (agC rfl agN)))))), rfl, (by exact c2), (by first | assumption | omega | (simp at *; omega))⟩ ?_
   rintro lw lO lH ⟨o3, p, N, U, a6, lB, c9, a3, ax, f0, rfl, c3, hp⟩ h2
   refine au _ f0 (fun _ => ?_)
   clear f0
   replace b3 := b3.mono c9
   refine ah 2 rfl ?_
   refine wT 1 [] 56 59 [] [(59, (.bool (decide ((p : Int) < (((aw ((c.blocks.getD b default).ins.getD k default)) ++ (ab ((c.blocks.getD b default).ins.getD k default))).length : Int)))))] rfl fun _ => ?_
   refine am 3 5 (v := (decide ((p : Int) < (((aw ((c.blocks.getD b default).ins.getD k default)) ++ (ab ((c.blocks.getD b default).ins.getD k default))).length : Int)))) rfl rfl rfl rfl (fun c5 => ?_) (fun c5 => ?_)
   ·
    have e0 := c5
    try simp only [BS] at e0
    have hpn : p < (aw ((c.blocks.getD b default).ins.getD k default) ++ ab ((c.blocks.getD b default).ins.getD k default)).length := by omega
    have hr := eQ hax hpn
    have lU := i9 c3 hr (us_len vF hn hbn (by rw [a0q]; omega))
    refine aa ?_
    obtain ⟨la, f4⟩ := Sv.view (OS.sv b3 a3 (i := 2) rfl)
    have lQ := fI (f4 p)
    obtain ⟨lb, f5⟩ := Sv.view (OS.sv ax a3 (i := 1) rfl)
    have lR := fI (f5 ((((aw ((c.blocks.getD b default).ins.getD k default)) ++ (ab ((c.blocks.getD b default).ins.getD k default))).getD p 0).toNat))
    refine wRo 9 0 [(4, .o (iI (((aw ((c.blocks.getD b default).ins.getD k default)) ++ (ab ((c.blocks.getD b default).ins.getD k default))).getD p 0))), (6, .o (iI (o3.getD ((((aw ((c.blocks.getD b default).ins.getD k default)) ++ (ab ((c.blocks.getD b default).ins.getD k default))).getD p 0).toNat) 0)))] 62 70 [] [(69, (iI ((o3.getD ((((aw ((c.blocks.getD b default).ins.getD k default)) ++ (ab ((c.blocks.getD b default).ins.getD k default))).getD p 0).toNat) 0) + 1))), (70, (.pointer (some ⟨sB (.slice N o3.length U), sO (.slice N o3.length U) + ((((aw ((c.blocks.getD b default).ins.getD k default)) ++ (ab ((c.blocks.getD b default).ins.getD k default))).getD p 0).toNat) * Rp.sz Int, none⟩)))] (vA (Sv.ix (j := (p : Int)) (OS.sv b3 a3 (i := 2) rfl) (by first | (dsimp only; omega) | omega) (by first | (dsimp only; omega) | omega)) (vA (ql 3 0 (vI (f4 p) (by first | (dsimp only; omega) | omega)) rfl rfl) (vA (Sv.ix (j := (((aw ((c.blocks.getD b default).ins.getD k default)) ++ (ab ((c.blocks.getD b default).ins.getD k default))).getD p 0)) (OS.sv ax a3 (i := 1) rfl) (by first | (dsimp only; omega) | omega) (by first | (dsimp only; omega) | omega)) (vA (ql 3 0 (vI (f5 ((((aw ((c.blocks.getD b default).ins.getD k default)) ++ (ab ((c.blocks.getD b default).ins.getD k default))).getD p 0).toNat)) (by first | (dsimp only; omega) | omega)) rfl rfl) (vA (vi (n := (o3.getD ((((aw ((c.blocks.getD b default).ins.getD k default)) ++ (ab ((c.blocks.getD b default).ins.getD k default))).getD p 0).toNat) 0) + 1) (by first | (dsimp only; omega) | omega)) (vA (Sv.ix (j := (((aw ((c.blocks.getD b default).ins.getD k default)) ++ (ab ((c.blocks.getD b default).ins.getD k default))).getD p 0)) (OS.sv ax a3 (i := 1) rfl) (by first | (dsimp only; omega) | omega) (by first | (dsimp only; omega) | omega)) trivial)))))) rfl fun _ => ?_
    refine aL (bY (α := Int) (j := (((aw ((c.blocks.getD b default).ins.getD k default)) ++ (ab ((c.blocks.getD b default).ins.getD k default))).getD p 0).toNat) (off := 0) (q := 1) ((o3.getD ((((aw ((c.blocks.getD b default).ins.getD k default)) ++ (ab ((c.blocks.getD b default).ins.getD k default))).getD p 0).toNat) 0) + 1) ax a3 rfl rfl rfl rfl rfl rfl rfl rfl (aK (x := (0 : Int)) (by first | (dsimp only; omega) | omega)) rfl (by rintro cs ⟨rfl, _⟩; exact ⟨a04 rfl, rfl, by first | (dsimp only; omega) | omega⟩)) rfl ?_
    rintro _ lI hz ⟨dk, (hW : HS _ _ _ [_, hz, _, _] _), _⟩
    have kY := OS.len' dk
    refine ae 2 rfl ?_
    refine wU 1 [] 60 61 [7] [(7, (iI ((p : Int) + 1)))] (vi (n := (p : Int) + 1) (by first | (dsimp only; omega) | omega)) rfl fun _ => ?_
    refine h2 _ _ _ ?_ ⟨o3.set ((((aw ((c.blocks.getD b default).ins.getD k default)) ++ (ab ((c.blocks.getD b default).ins.getD k default))).getD p 0).toNat) ((o3.getD ((((aw ((c.blocks.getD b default).ins.getD k default)) ++ (ab ((c.blocks.getD b default).ins.getD k default))).getD p 0).toNat) 0) + 1), p + 1, N, U, hz, _, (c9), hW, (OS.norm dk), (agC rfl (agC (show Value.slice N o3.length U = Value.slice N (o3.set ((((aw ((c.blocks.getD b default).ins.getD k default)) ++ (ab ((c.blocks.getD b default).ins.getD k default))).getD p 0).toNat) ((o3.getD ((((aw ((c.blocks.getD b default).ins.getD k default)) ++ (ab ((c.blocks.getD b default).ins.getD k default))).getD p 0).toNat) 0) + 1)).length U by rw [OS.len' dk]) (agC rfl (agC rfl (agC rfl (agC rfl agN)))))), rfl, (by rw [bo (d := 0) hpn]; exact gf c3 hr), (by first | assumption | omega | (simp at *; omega))⟩
    omega
   have e0 := c5
   try simp only [BS] at e0
   refine wU 1 [] 32 33 [5] [(5, (iI ((k : Int) + 1)))] (vi (n := (k : Int) + 1) (by first | (dsimp only; omega) | omega)) rfl fun _ => ?_
   refine h1 _ _ _ ?_ ⟨o3, k + 1, N, U, a6, _, (fT (fT (fT (b9) cc) c8) c9), (HS.sub a3 (a05 _ _)), ax, (agC rfl (agC rfl (agC rfl (agC rfl agN)))), rfl, (by rw [a0h (show (aw ((c.blocks.getD b default).ins.getD k default) ++ ab ((c.blocks.getD b default).ins.getD k default)).length ≤ p by omega)] at c3; exact us_instr hnn ▸ c3), (by first | assumption | omega | (simp at *; omega))⟩
   omega
  have ez := c0
  try simp only [BS] at ez
  refine aa ?_
  obtain ⟨e5, f6⟩ := Sv.view (SR.sv E J)
  obtain ⟨kU, kV, kW, kX, hj⟩ := BlkT.fx (f6 b)
  let hD : Value := (.agg ⟨[(.slice (cA (e5 b) 0) (c.blocks.getD b default).ins.length (cK (e5 b) 0)), (iI (c.blocks.getD b default).fin), (iI (c.blocks.getD b default).reg), (iI (c.blocks.getD b default).tgt), (iI (c.blocks.getD b default).els)]⟩)
  refine wRo 5 0 [(1, .o (.slice z c.blocks.length A)), (4, .o hD)] 71 75 [] [(75, hD)] (vA (ql 22 2 (HS.hc J (i := 0) rfl) rfl rfl) (vA (Sv.ix (j := (b : Int)) (SR.sv E J) (by first | (dsimp only; omega) | omega) (by first | (dsimp only; omega) | omega)) (vA (qn 48 0 5 (BlkT.vw (f6 b) (by first | (dsimp only; omega) | omega)) rfl rfl rfl rfl) trivial))) rfl fun _ => ?_
  refine az (ap rfl rfl rfl) rfl rfl (ma.rend_c ex (c.blocks.getD b default) (HS.call J) hj (by first | (dsimp only; omega) | omega) (by first | (dsimp only; omega) | omega) (by first | (dsimp only; omega) | omega) (by first | (dsimp only; omega) | omega) hT) ?_
  rintro _ lJ ⟨es, go, lY, hA, ih, e6, ds, rfl, bz, rfl⟩
  replace ds : HS _ _ _ [_, ad, hA] _ := HS.back J rfl ds
  replace al := al.mono e6
  refine wa (.slice es (df (c.blocks.getD b default)).length go) rfl rfl rfl ?_
  refine ae 2 rfl ?_
  refine wT 2 [] 1 0 [9] [(9, (iI 0))] rfl fun _ => ?_
  refine aj (fun (mm : Nat) f H' => ∃ (o4 : List Int) (q : Nat) (T : Option Addr) (V : Nat) (a7 : Fp) (F' : Fz), Fz.le ih F' ∧ HS (Base.of H []) F' H' [ea, a7, hA] R ∧ OS F' (.slice T o4.length V) o4 a7 ∧ aD f [(1, (.pointer (some ⟨b1, 0, none⟩))), (3, (.slice T o4.length V)), (4, (iI (b : Int))), (8, (.slice es (df (c.blocks.getD b default)).length go)), (9, (iI (q : Int)))] ∧ mm = (df (c.blocks.getD b default)).length - q ∧ (CntF c (UsP c b (c.blocks.getD b default).ins.length ((df (c.blocks.getD b default)).take q)) o4) ∧ (q ≤ (df (c.blocks.getD b default)).length)) _ ⟨o2, 0, av, a0, ad, _, fR, ds, al, (agC rfl (agC rfl (agC rfl (agC rfl (agC rfl agN))))), rfl, (by rw [← (show k = (c.blocks.getD b default).ins.length by omega)]; exact c2), (by first | assumption | omega | (simp at *; omega))⟩ ?_
  rintro lz lP lK ⟨o4, q, T, V, a7, lC, dd, a4, ay, f1, rfl, c4, hq⟩ h3
  refine au _ f1 (fun _ => ?_)
  clear f1
  replace bz := bz.mono dd
  refine ah 2 rfl ?_
  refine wT 1 [] 77 80 [] [(80, (.bool (decide ((q : Int) < ((df (c.blocks.getD b default)).length : Int)))))] rfl fun _ => ?_
  refine am 3 5 (v := (decide ((q : Int) < ((df (c.blocks.getD b default)).length : Int)))) rfl rfl rfl rfl (fun c7 => ?_) (fun c7 => ?_)
  ·
   have e1 := c7
   try simp only [BS] at e1
   have hqn : q < (df (c.blocks.getD b default)).length := by omega
   have ht : 0 ≤ (df (c.blocks.getD b default)).getD q 0 ∧ (df (c.blocks.getD b default)).getD q 0 < c.regs := eQ (end_rng vF hbn) hqn
   have lV := i9 c4 ht (us_len vF hn hbn (by rw [a0q]; omega))
   refine aa ?_
   obtain ⟨lc, f7⟩ := Sv.view (OS.sv bz a4 (i := 2) rfl)
   have lS := fI (f7 q)
   obtain ⟨ld, f8⟩ := Sv.view (OS.sv ay a4 (i := 1) rfl)
   have lT := fI (f8 ((df (c.blocks.getD b default)).getD q 0).toNat)
   refine wRo 9 0 [(4, .o (iI ((df (c.blocks.getD b default)).getD q 0))), (6, .o (iI (o4.getD ((df (c.blocks.getD b default)).getD q 0).toNat 0)))] 83 91 [] [(90, (iI ((o4.getD ((df (c.blocks.getD b default)).getD q 0).toNat 0) + 1))), (91, (.pointer (some ⟨sB (.slice T o4.length V), sO (.slice T o4.length V) + ((df (c.blocks.getD b default)).getD q 0).toNat * Rp.sz Int, none⟩)))] (vA (Sv.ix (j := (q : Int)) (OS.sv bz a4 (i := 2) rfl) (by first | (dsimp only; omega) | omega) (by first | (dsimp only; omega) | omega)) (vA (ql 3 0 (vI (f7 q) (by first | (dsimp only; omega) | omega)) rfl rfl) (vA (Sv.ix (j := ((df (c.blocks.getD b default)).getD q 0)) (OS.sv ay a4 (i := 1) rfl) (by first | (dsimp only; omega) | omega) (by first | (dsimp only; omega) | omega)) (vA (ql 3 0 (vI (f8 ((df (c.blocks.getD b default)).getD q 0).toNat) (by first | (dsimp only; omega) | omega)) rfl rfl) (vA (vi (n := (o4.getD ((df (c.blocks.getD b default)).getD q 0).toNat 0) + 1) (by first | (dsimp only; omega) | omega)) (vA (Sv.ix (j := ((df (c.blocks.getD b default)).getD q 0)) (OS.sv ay a4 (i := 1) rfl) (by first | (dsimp only; omega) | omega) (by first | (dsimp only; omega) | omega)) trivial)))))) rfl fun _ => ?_
   refine aL (bY (α := Int) (j := ((df (c.blocks.getD b default)).getD q 0).toNat) (off := 0) (q := 1) ((o4.getD ((df (c.blocks.getD b default)).getD q 0).toNat 0) + 1) ay a4 rfl rfl rfl rfl rfl rfl rfl rfl (aK (x := (0 : Int)) (by first | (dsimp only; omega) | omega)) rfl (by rintro cs ⟨rfl, _⟩; exact ⟨a04 rfl, rfl, by first | (dsimp only; omega) | omega⟩)) rfl ?_
   rintro _ lL hB ⟨dl, (hX : HS _ _ _ [_, hB, _] _), _⟩
   have kZ := OS.len' dl
   refine ae 2 rfl ?_
   refine wU 1 [] 81 82 [9] [(9, (iI ((q : Int) + 1)))] (vi (n := (q : Int) + 1) (by first | (dsimp only; omega) | omega)) rfl fun _ => ?_
   refine h3 _ _ _ ?_ ⟨o4.set ((df (c.blocks.getD b default)).getD q 0).toNat ((o4.getD ((df (c.blocks.getD b default)).getD q 0).toNat 0) + 1), q + 1, T, V, hB, _, (dd), hX, (OS.norm dl), (agC rfl (agC (show Value.slice T o4.length V = Value.slice T (o4.set ((df (c.blocks.getD b default)).getD q 0).toNat ((o4.getD ((df (c.blocks.getD b default)).getD q 0).toNat 0) + 1)).length V by rw [OS.len' dl]) (agC rfl (agC rfl (agC rfl agN))))), rfl, (by rw [bo (d := 0) hqn]; exact gf c4 ht), (by first | assumption | omega | (simp at *; omega))⟩
   omega
  have e1 := c7
  try simp only [BS] at e1
  refine wU 1 [] 21 22 [4] [(4, (iI ((b : Int) + 1)))] (vi (n := (b : Int) + 1) (by first | (dsimp only; omega) | omega)) rfl fun _ => ?_
  refine hY _ _ _ ?_ ⟨o4, b + 1, T, V, a7, _, (fT (fT (fT (b7) b9) e6) dd), (HS.sub a4 (a05 _ _)), ay, (agC rfl (agC rfl (agC rfl agN))), rfl, (by rw [a0h (show (df (c.blocks.getD b default)).length ≤ q by omega)] at c4; exact j4 hbn ▸ c4), (by first | assumption | omega | (simp at *; omega))⟩
  omega
 have et := co
 try simp only [BS] at et
 refine wT 1 [] 2 2 [92] [(2, (.slice ag o1.length an))] rfl fun _ => ?_
 obtain ⟨lD, hE, dt, hS, lp⟩ := OS.frz ci dn (i := 1) rfl
 have dt : HS _ _ _ [_, []] _ := dt
 refine ak ⟨.inr rfl, _, rfl, ag, an, o1, _, (fT (fT (d1) b7) hE), (HS.forget dt), rfl, hS, (by first | exact fun h => absurd (h.symm.trans hv) (by decide) | exact fun _ => us_all (c := c) (k := b) (by omega) ▸ c1), (by first | exact fun _ => rfl | exact fun h => absurd (hv.symm.trans h) (by decide))⟩
end Go.Proofs.YtknafdcgpaejlaaDoor.ni
