/-
 How often registers are used: the allocator, by a symbolic run. No condition but bounds on lengths.
-/
import Derived.Test.YtknafdcgpaejlaaDoorZUNB
noncomputable section
namespace Go.Proofs.YtknafdcgpaejlaaDoor.nc
open Go.R
set_option maxRecDepth 10000
set_option linter.unusedVariables false
set_option linter.unusedSimpArgs false
variable (ex : FuncId) {F : Fz} {H : Heap} {R : List Fp}
open m1 m2 m3 m4 m5 m6 ma ml mb mc md mf mg mh mi mj na nb
def usedI (v : VInT) : List Int := az v ++ ab v
def usedB (b : BlkT) : List Int := b.ins.flatMap usedI ++ gN b
def usedC (c : VFnT) : List Int := c.blocks.flatMap usedB
def UsP (c : VFnT) (k n : Nat) (l : List Int) : List Int := (c.blocks.take k).flatMap usedB ++ ((bA c k).ins.take n).flatMap usedI ++ l
structure CntF (c : VFnT) (L o : List Int) : Prop where
 len : o.length = c.regs.toNat
 at_ : ∀ r, r < c.regs.toNat → o.getD r 0 = (L.count (r : Int) : Int)
theorem iq {c : VFnT} : CntF c (UsP c 0 0 []) (List.replicate c.regs.toNat 0) := ⟨a0I, fun r hr => by
 have e : UsP c 0 0 [] = [] := by unfold UsP; simp
 rw [e, a01, a1i, if_pos hr]; rfl⟩
theorem kj {c : VFnT} {k n : Nat} {l o : List Int} {x : Int} (h : CntF c (UsP c k n l) o) (hx : 0 ≤ x ∧ x < c.regs) : CntF c (UsP c k n (l ++ [x])) (o.set x.toNat (o.getD x.toNat 0 + 1)) := ⟨a0h.trans h.len, fun r hr => by
 have e : UsP c k n (l ++ [x]) = UsP c k n l ++ [x] := (a0l _ _ _).symm
 rw [e, a1O, List.count_singleton]
 have hl := h.len
 by_cases A : x.toNat = r
 ·
  subst A
  have E : ((x.toNat : Nat) : Int) = x := by omega
  rw [a01, List.getElem?_set_self (by omega), a0O, h.at_ _ hr, E]
  simp
 rw [a01, a1Y A, ← a01, h.at_ r hr, if_neg (by simp; omega)]
 simp⟩
theorem cnt_rng {c : VFnT} {L o : List Int} {x : Int} (h : CntF c L o) (hx : 0 ≤ x ∧ x < c.regs) (hl : L.length ≤ 1125899906842624) : 0 ≤ o.getD x.toNat 0 ∧ o.getD x.toNat 0 ≤ 1125899906842624 ∧ x.toNat < o.length := by
 rw [h.at_ _ (by omega), h.len]
 have := a20 (a := ((x.toNat : Nat) : Int)) (l := L)
 omega
theorem us_instr {c : VFnT} {k n : Nat} (hn : n < (bA c k).ins.length) : UsP c k n (az ((bA c k).ins.getD n default) ++ ab ((bA c k).ins.getD n default)) = UsP c k (n + 1) [] := by
 unfold UsP
 rw [bj hn (d := default), List.flatMap_append, a0z]
 simp [usedI]
theorem us_block {c : VFnT} {k : Nat} (hk : k < c.blocks.length) : UsP c k (bA c k).ins.length (gN (bA c k)) = UsP c (k + 1) 0 [] := by
 unfold UsP
 rw [bj hk (d := default), List.flatMap_append, a15]
 simp [usedB, bA]
theorem us_all {c : VFnT} {k : Nat} (hk : c.blocks.length ≤ k) : UsP c k 0 [] = usedC c := by
 unfold UsP usedC
 rw [a0f hk]; simp
theorem fm_len {α : Type} {f : α → List Int} {B : Nat} : ∀ {l : List α}, (∀ x ∈ l, (f x).length ≤ B) → (l.flatMap f).length ≤ l.length * B
 | [], _ => a0S _
 | x :: l, h => by
  have A := fm_len (l := l) fun y hy => h y (a0k _ hy)
  have E := h x (a0B ..)
  rw [List.flatMap_cons, a05, a0a, a1d]; omega
theorem us_len {c : VFnT} {k n : Nat} {l : List Int} (v : VF c) (hins : ∀ j, (bA c j).ins.length ≤ 1073741824) (hk : k < c.blocks.length) (hl : l.length ≤ 20) : (UsP c k n l).length ≤ 1125899906842624 := by
 have hI : ∀ b, b < c.blocks.length → ∀ x ∈ (bA c b).ins, (usedI x).length ≤ 10 := fun b hb x hx => by
  obtain ⟨i, hi, rfl⟩ := a0y.1 hx
  have A := v.ins b hb i hi
  rw [a01, a06 hi, a0O] at A
  have E := eh (v := (bA c b).ins[i])
  have J := dR (v := (bA c b).ins[i])
  have N := (bV A).2.2
  unfold usedI; rw [a05]; omega
 have hB : ∀ x ∈ c.blocks.take k, (usedB x).length ≤ 10737418241 := fun x hx => by
  obtain ⟨b, hb, rfl⟩ := a0y.1 (a17 hx)
  have e : c.blocks[b] = bA c b := by unfold bA; rw [a01, a06 hb]; rfl
  rw [e]
  have A := fm_len (hI b hb)
  have E := hins b
  have J : (gN (bA c b)).length ≤ 1 := by unfold gN; split <;> simp
  unfold usedB; rw [a05]; omega
 have A := fm_len hB
 have E := fm_len (l := (bA c k).ins.take n) fun x hx => hI k hk x (a17 hx)
 have J := hins k
 have N := v.nb
 have T : (c.blocks.take k).length ≤ 1000 := by rw [a0g]; omega
 have U : ((bA c k).ins.take n).length ≤ 1073741824 := by rw [a0g]; omega
 unfold UsP
 rw [a05, a05]
 have V : (c.blocks.take k).length * 10737418241 ≤ 1000 * 10737418241 := a0x _ T
 omega
theorem end_yes {b : BlkT} (h : b.fin = 2 ∨ b.fin = 3) : gN b = [b.reg] := if_pos h
theorem end_no {b : BlkT} (h : ¬ (b.fin = 2 ∨ b.fin = 3)) : gN b = [] := if_neg h
set_option maxHeartbeats 2000000 in
theorem uses_c {ad : Option Addr} {al : Nat} (c : VFnT) (hs : HS (.of H []) F H [] R) (il : in64 c.params) (it : in64 c.regs) (a5 : SR F (.slice ad c.blocks.length al) c.blocks) (hT : TB 37 tabC F) (hins : ∀ j, (c.blocks.getD j default).ins.length ≤ 1073741822) : kKt ex 23 [(.agg ⟨[(iI c.params), (iI c.regs), (.slice ad c.blocks.length al)]⟩)] H fun v H' => ∃ (ao : Option Addr) (ko : Nat) (o : List Int) (F' : Fz), Fz.le F F' ∧ HS (.of H []) F' H' [] R ∧ v = .slice ao o.length ko ∧ SR F' (.slice ao o.length ko) o ∧ (d6 c = true → CntF c (usedC c) o) ∧ (d6 c = false → o = []) := by
 refine aH Tryd.func23 rfl rfl (ah 1 rfl (aa (aG (bG hs rfl rfl) rfl rfl ?_)))
 rintro _ H2 _ ⟨b1, rfl, (fi : HS _ _ _ [[(b1, .cells [(iI c.params), (iI c.regs), (.slice ad c.blocks.length al)] none false)]] _), _⟩
 let ha : Value := (.agg ⟨[(iI c.params), (iI c.regs), (.slice ad c.blocks.length al)]⟩)
 refine wa (.slice none 0 0) rfl rfl rfl (ae 3 rfl (aa (wUo 1 0 [(0, .o ha)] 12 12 [] [(12, ha)] (qn 24 0 3 (HS.hc fi (i := 0) rfl) rfl rfl rfl rfl) rfl fun _ => aA (aq rfl rfl rfl) rfl rfl (m3.iD ex c (HS.call fi) (by omega) (by omega) a5 hT (by exact fun j => a0c (hins j) (by omega))) ?_)))
 rintro _ H4 ⟨r4, F4, d2, b9, rfl, rfl⟩
 replace b9 : HS _ _ _ [_] _ := HS.back fi rfl b9
 replace hT := hT.mono d2
 replace a5 := a5.mono d2
 refine wTo 1 2 [] 14 14 [] [(14, (.bool (!(d6 c))))] rfl fun _ => ae 1 rfl (am 1 2 (v := (!(d6 c))) rfl rfl rfl rfl (fun e1 => ?_) (fun e1 => ?_))
 ·
  have c6 := e1
  try simp only [BS] at c6
  have hv := c6
  refine wT 1 [] 2 2 [] [(2, (.slice none 0 0))] rfl fun _ => ak ⟨.inr rfl, _, rfl, none, 0, ([] : List Int), _, (d2), (HS.forget b9), rfl, (SR.nil : SR F4 (.slice none 0 0) ([] : List Int)), (by exact fun h => absurd (h.symm.trans hv) (by decide)), (by exact fun _ => rfl)⟩
 have c6 := e1
 try simp only [BS] at c6
 have hv := c6
 have vF := iE hv
 have hnb := vF.nb
 have hrg := vF.regs
 have e9 : ∀ j, (bA c j).ins.length ≤ 1073741824 := fun j => a0c (hins j) (by omega)
 refine aa (wUo 2 0 [(1, .o (iI c.regs))] 15 16 [] [(16, (iI c.regs))] (ql 3 1 (HS.hc b9 (i := 0) rfl) rfl rfl) rfl fun _ => aG (cE (0 : Int) b9 rfl rfl rfl rfl rfl rfl rfl rfl rfl ⟨rfl, by decide⟩ (by omega) (by omega)) rfl rfl ?_)
 rintro _ jw p9 ⟨a9, k9, rfl, hM, (fd : HS _ _ _ [_, p9] _), _⟩
 let ea : Fp := [(b1, .cells [(iI c.params), (iI c.regs), (.slice ad c.blocks.length al)] none false)]
 refine wa (.slice a9 (List.replicate c.regs.toNat (0 : Int)).length k9) rfl rfl rfl (ae 3 rfl (wU 2 [(1, .o (.slice ad c.blocks.length al))] 18 21 [] [(19, (.slice ad c.blocks.length al)), (20, (iI (c.blocks.length : Int))), (21, (iI 0))] (ql 22 2 (HS.hc fd (i := 0) rfl) rfl rfl) rfl fun _ => aj (fun (mm : Nat) f H' => ∃ (o1 : List Int) (k : Nat) (ar : Option Addr) (av : Nat) (a1 : Fp) (F' : Fz), Fz.le F4 F' ∧ HS (Base.of H []) F' H' [ea, a1] R ∧ OS F' (.slice ar o1.length av) o1 a1 ∧ aD f [(3, (.slice ar o1.length av)), (19, (.slice ad c.blocks.length al)), (20, (iI (c.blocks.length : Int))), (21, (iI (k : Int)))] ∧ mm = c.blocks.length - k ∧ (CntF c (UsP c k 0 []) o1) ∧ (k ≤ c.blocks.length)) _ ⟨List.replicate c.regs.toNat (0 : Int), 0, a9, k9, p9, _, fR, fd, hM, ⟨rfl, rfl, rfl, rfl, trivial⟩, rfl, (by exact iq), (by omega)⟩ ?_))
 rintro iz kR kc ⟨o1, k, ar, av, a1, hD, bz, b6, cc, e3, rfl, c1, hk⟩ f8
 refine ap _ e3 (fun _ => ?_)
 clear e3
 replace hT := hT.mono bz
 replace a5 := a5.mono bz
 refine ah 1 rfl (wT 2 [] 22 22 [] [(22, (.bool (decide ((k : Int) < (c.blocks.length : Int)))))] rfl fun _ => am 4 5 (v := (decide ((k : Int) < (c.blocks.length : Int)))) rfl rfl rfl rfl (fun ci => ?_) (fun ci => ?_))
 ·
  have em := ci
  try simp only [BS] at em
  have hbn : k < c.blocks.length := by omega
  have hbl := hins k
  refine aa ?_
  obtain ⟨A, f1⟩ := Sv.view (SR.sv a5 b6)
  obtain ⟨hS, hV, hW, hX, bk⟩ := BlkT.fx (f1 k)
  let hb : Value := (.agg ⟨[(.slice (cA (A k) 0) (c.blocks.getD k default).ins.length (cK (A k) 0)), (iI (c.blocks.getD k default).fin), (iI (c.blocks.getD k default).reg), (iI (c.blocks.getD k default).tgt), (iI (c.blocks.getD k default).els)]⟩)
  refine wRo 2 0 [(1, .o hb)] 23 24 [] [(24, hb)] (vA (Sv.ix (j := (k : Int)) (SR.sv a5 b6) (by omega) (by omega)) (vA (qn 48 0 5 (BlkT.vw (f1 k) (by omega)) rfl rfl rfl rfl) trivial)) rfl fun _ => aG (bp b6 rfl) rfl rfl ?_
  rintro _ kd _ ⟨b3, rfl, (hl : HS _ _ _ [_, a1, [(b3, .cells [(.slice none 0 0), (iI 0), (iI 0), (iI 0), (iI 0)] none false)]] _), _⟩
  refine aN (aI (q := 2) hl rfl rfl rfl rfl rfl rfl rfl rfl rfl) rfl ?_
  rintro _ kg _ ⟨(f0 : HS _ _ _ [_, _, [(b3, .cells [(.slice (cA (A k) 0) (c.blocks.getD k default).ins.length (cK (A k) 0)), (iI (c.blocks.getD k default).fin), (iI (c.blocks.getD k default).reg), (iI (c.blocks.getD k default).tgt), (iI (c.blocks.getD k default).els)] none false)]] _), _⟩
  let go : Fp := [(b3, .cells [(.slice (cA (A k) 0) (c.blocks.getD k default).ins.length (cK (A k) 0)), (iI (c.blocks.getD k default).fin), (iI (c.blocks.getD k default).reg), (iI (c.blocks.getD k default).tgt), (iI (c.blocks.getD k default).els)] none false)]
  refine ae 3 rfl (wU 2 [(1, .o (.slice (cA (A k) 0) (c.blocks.getD k default).ins.length (cK (A k) 0)))] 25 28 [] [(26, (.slice (cA (A k) 0) (c.blocks.getD k default).ins.length (cK (A k) 0))), (27, (iI ((c.blocks.getD k default).ins.length : Int))), (28, (iI 0))] (ql 46 0 (HS.hc f0 (i := 2) rfl) rfl rfl) rfl fun _ => aj (fun (mm : Nat) f H' => ∃ (o2 : List Int) (n : Nat) (E : Option Addr) (J : Nat) (aw : Fp) (F' : Fz), Fz.le hD F' ∧ HS (Base.of H []) F' H' [ea, aw, go] R ∧ OS F' (.slice E o2.length J) o2 aw ∧ aD f [(3, (.slice E o2.length J)), (5, (.pointer (some ⟨b3, 0, none⟩))), (19, (.slice ad c.blocks.length al)), (20, (iI (c.blocks.length : Int))), (21, (iI (k : Int))), (26, (.slice (cA (A k) 0) (c.blocks.getD k default).ins.length (cK (A k) 0))), (27, (iI ((c.blocks.getD k default).ins.length : Int))), (28, (iI (n : Int)))] ∧ mm = (c.blocks.getD k default).ins.length - n ∧ (CntF c (UsP c k n []) o2) ∧ (n ≤ (c.blocks.getD k default).ins.length)) _ ⟨o1, 0, ar, av, a1, _, fR, f0, cc, ⟨rfl, rfl, rfl, rfl, rfl, rfl, rfl, rfl, trivial⟩, rfl, (by omega), (by omega)⟩ ?_)
  rintro i1 kS ki ⟨o2, n, E, J, aw, ja, b0, ag, Z, e4, rfl, c2, hn⟩ hw
  refine ap _ e4 (fun _ => ?_)
  clear e4
  replace hT := hT.mono b0
  replace bk := bk.mono b0
  refine ah 1 rfl (wT 2 [] 29 29 [] [(29, (.bool (decide ((n : Int) < ((c.blocks.getD k default).ins.length : Int)))))] rfl fun _ => am 4 5 (v := (decide ((n : Int) < ((c.blocks.getD k default).ins.length : Int)))) rfl rfl rfl rfl (fun co => ?_) (fun co => ?_))
  ·
   have es := co
   try simp only [BS] at es
   have hnn : n < (c.blocks.getD k default).ins.length := by omega
   have hvl : (∀ x ∈ az ((c.blocks.getD k default).ins.getD n default), 0 ≤ x ∧ x < c.regs) ∧ (∀ x ∈ ab ((c.blocks.getD k default).ins.getD n default), 0 ≤ x ∧ x < c.regs) ∧ ((c.blocks.getD k default).ins.getD n default).args.length ≤ 6 := bV (vF.ins k hbn n hnn)
   have hrl := eh (v := ((c.blocks.getD k default).ins.getD n default))
   have hwl := dR (v := ((c.blocks.getD k default).ins.getD n default))
   refine aa ?_
   obtain ⟨a8, f2⟩ := Sv.view (SR.sv bk ag)
   obtain ⟨hY, h0, h1, h2, h3, bl⟩ := VInT.fx (f2 n)
   let b4 : Value := (.agg ⟨[(iI ((c.blocks.getD k default).ins.getD n default).i.op), (iI ((c.blocks.getD k default).ins.getD n default).i.a), (iI ((c.blocks.getD k default).ins.getD n default).i.b), (iI ((c.blocks.getD k default).ins.getD n default).i.c), (iI ((c.blocks.getD k default).ins.getD n default).i.n), (.slice (cA (a8 n) 5) ((c.blocks.getD k default).ins.getD n default).args.length (cK (a8 n) 5))]⟩)
   refine wRo 2 0 [(1, .o b4)] 30 31 [] [(31, b4)] (vA (Sv.ix (j := (n : Int)) (SR.sv bk ag) (by omega) (by omega)) (vA (qn 52 0 6 (VInT.vw (f2 n) (by omega)) rfl rfl rfl rfl) trivial)) rfl fun _ => aG (bp ag rfl) rfl rfl ?_
   rintro _ kk _ ⟨d1, rfl, (hm : HS _ _ _ [_, aw, _, [(d1, .cells [(iI 0), (iI 0), (iI 0), (iI 0), (iI 0), (.slice none 0 0)] none false)]] _), _⟩
   refine aN (aI (q := 3) hm rfl rfl rfl rfl rfl rfl rfl rfl rfl) rfl ?_
   rintro _ kl _ ⟨(dn : HS _ _ _ [_, _, _, [(d1, .cells [(iI ((c.blocks.getD k default).ins.getD n default).i.op), (iI ((c.blocks.getD k default).ins.getD n default).i.a), (iI ((c.blocks.getD k default).ins.getD n default).i.b), (iI ((c.blocks.getD k default).ins.getD n default).i.c), (iI ((c.blocks.getD k default).ins.getD n default).i.n), (.slice (cA (a8 n) 5) ((c.blocks.getD k default).ins.getD n default).args.length (cK (a8 n) 5))] none false)]] _), _⟩
   refine ae 3 rfl (aa (wUo 1 0 [(0, .o b4)] 32 32 [] [(32, b4)] (qn 52 0 6 (HS.hc dn (i := 3) rfl) rfl rfl rfl rfl) rfl fun _ => aA (aq rfl rfl rfl) rfl rfl (ma.hO ex ((c.blocks.getD k default).ins.getD n default) (HS.call dn) (by omega) (by omega) (by omega) (by omega) (by omega) bl hT (by omega)) ?_))
   rintro _ kn ⟨hf, hB, k5, f9, hE, b5, ds, rfl, bb, rfl⟩
   replace ds : HS _ _ _ [_, _, _, _, f9] _ := HS.back dn rfl ds
   replace Z := Z.mono b5
   let he : Fp := [(d1, .cells [(iI ((c.blocks.getD k default).ins.getD n default).i.op), (iI ((c.blocks.getD k default).ins.getD n default).i.a), (iI ((c.blocks.getD k default).ins.getD n default).i.b), (iI ((c.blocks.getD k default).ins.getD n default).i.c), (iI ((c.blocks.getD k default).ins.getD n default).i.n), (.slice (cA (a8 n) 5) ((c.blocks.getD k default).ins.getD n default).args.length (cK (a8 n) 5))] none false)]
   refine wTo 2 2 [] 34 35 [] [(34, (iI ((az ((c.blocks.getD k default).ins.getD n default)).length : Int))), (35, (iI 0))] rfl fun _ => ae 2 rfl (aj (fun (mm : Nat) f H' => ∃ (o3 : List Int) (p : Nat) (N : Option Addr) (U : Nat) (a2 : Fp) (F' : Fz), Fz.le hE F' ∧ HS (Base.of H []) F' H' [ea, a2, go, he, f9] R ∧ OS F' (.slice N o3.length U) o3 a2 ∧ aD f [(3, (.slice N o3.length U)), (5, (.pointer (some ⟨b3, 0, none⟩))), (7, (.pointer (some ⟨d1, 0, none⟩))), (19, (.slice ad c.blocks.length al)), (20, (iI (c.blocks.length : Int))), (21, (iI (k : Int))), (26, (.slice (cA (A k) 0) (c.blocks.getD k default).ins.length (cK (A k) 0))), (27, (iI ((c.blocks.getD k default).ins.length : Int))), (28, (iI (n : Int))), (33, (.slice hf (az ((c.blocks.getD k default).ins.getD n default)).length hB)), (34, (iI ((az ((c.blocks.getD k default).ins.getD n default)).length : Int))), (35, (iI (p : Int)))] ∧ mm = (az ((c.blocks.getD k default).ins.getD n default)).length - p ∧ (CntF c (UsP c k n ((az ((c.blocks.getD k default).ins.getD n default)).take p)) o3) ∧ (p ≤ (az ((c.blocks.getD k default).ins.getD n default)).length)) _ ⟨o2, 0, E, J, aw, _, fR, ds, Z, ⟨rfl, rfl, rfl, rfl, rfl, rfl, rfl, rfl, rfl, rfl, rfl, rfl, trivial⟩, rfl, (by exact c2), (by omega)⟩ ?_)
   rintro i2 kT kr ⟨o3, p, N, U, a2, jb, b2, ax, an, e5, rfl, c3, hp⟩ hz
   refine ap _ e5 (fun _ => ?_)
   clear e5
   replace hT := (hT.mono b5).mono b2
   replace bb := bb.mono b2
   replace bl := (bl.mono b5).mono b2
   refine ah 1 rfl (wT 2 [] 36 36 [] [(36, (.bool (decide ((p : Int) < ((az ((c.blocks.getD k default).ins.getD n default)).length : Int)))))] rfl fun _ => am 4 5 (v := (decide ((p : Int) < ((az ((c.blocks.getD k default).ins.getD n default)).length : Int)))) rfl rfl rfl rfl (fun c0 => ?_) (fun c0 => ?_))
   ·
    have et := c0
    try simp only [BS] at et
    have hpn : p < (az ((c.blocks.getD k default).ins.getD n default)).length := by omega
    have g4 := d3 hvl.1 hpn
    have k0 := cnt_rng c3 g4 (us_len vF e9 hbn (by rw [a0g]; omega))
    obtain ⟨h7, f3⟩ := Sv.view (OS.sv bb ax (i := 4) rfl)
    have kV := fI (f3 p)
    refine wR 1 [(1, .o (iI ((az ((c.blocks.getD k default).ins.getD n default)).getD p 0)))] 37 38 [9] [(9, (iI ((az ((c.blocks.getD k default).ins.getD n default)).getD p 0)))] (vA (Sv.ix (j := (p : Int)) (OS.sv bb ax (i := 4) rfl) (by omega) (by omega)) (vA (ql 3 0 (vI (f3 p) (by omega)) rfl rfl) trivial)) rfl fun _ => aa ?_
    obtain ⟨h8, f4⟩ := Sv.view (OS.sv an ax (i := 1) rfl)
    have kW := fI (f4 (((az ((c.blocks.getD k default).ins.getD n default)).getD p 0).toNat))
    refine wRo 6 0 [(3, .o (iI (o3.getD (((az ((c.blocks.getD k default).ins.getD n default)).getD p 0).toNat) 0)))] 39 44 [] [(43, (iI ((o3.getD (((az ((c.blocks.getD k default).ins.getD n default)).getD p 0).toNat) 0) + 1))), (44, (.pointer (some ⟨sB (.slice N o3.length U), sO (.slice N o3.length U) + (((az ((c.blocks.getD k default).ins.getD n default)).getD p 0).toNat) * Rp.sz Int, none⟩)))] (vA (Sv.ix (j := ((az ((c.blocks.getD k default).ins.getD n default)).getD p 0)) (OS.sv an ax (i := 1) rfl) (by omega) (by omega)) (vA (ql 3 0 (vI (f4 (((az ((c.blocks.getD k default).ins.getD n default)).getD p 0).toNat)) (by omega)) rfl rfl) (vA (vi (n := (o3.getD (((az ((c.blocks.getD k default).ins.getD n default)).getD p 0).toNat) 0) + 1) (by omega)) (vA (Sv.ix (j := ((az ((c.blocks.getD k default).ins.getD n default)).getD p 0)) (OS.sv an ax (i := 1) rfl) (by omega) (by omega)) trivial)))) rfl fun _ => aN (db (α := Int) (j := ((az ((c.blocks.getD k default).ins.getD n default)).getD p 0).toNat) (off := 0) (q := 1) ((o3.getD (((az ((c.blocks.getD k default).ins.getD n default)).getD p 0).toNat) 0) + 1) an ax rfl rfl rfl rfl rfl rfl rfl rfl (aM (x := (0 : Int)) (by omega)) rfl (by rintro cs ⟨rfl, _⟩; exact ⟨a07 rfl, rfl, by omega⟩)) rfl ?_
    rintro _ kx g6 ⟨dd, (hr : HS _ _ _ [_, g6, _, _, _] _), _⟩
    have h4 := OS.len' dd
    refine ae 2 rfl (wU 1 [] 35 35 [45] [(35, (iI ((p : Int) + 1)))] (vi (n := (p : Int) + 1) (by omega)) rfl fun _ => hz _ _ _ ?_ ⟨o3.set (((az ((c.blocks.getD k default).ins.getD n default)).getD p 0).toNat) ((o3.getD (((az ((c.blocks.getD k default).ins.getD n default)).getD p 0).toNat) 0) + 1), p + 1, N, U, g6, _, (b2), hr, (OS.norm dd), (agC (show Value.slice N o3.length U = Value.slice N (o3.set (((az ((c.blocks.getD k default).ins.getD n default)).getD p 0).toNat) ((o3.getD (((az ((c.blocks.getD k default).ins.getD n default)).getD p 0).toNat) 0) + 1)).length U by rw [OS.len' dd]) ⟨rfl, rfl, rfl, rfl, rfl, rfl, rfl, rfl, rfl, rfl, rfl, trivial⟩), rfl, (by rw [bj (d := 0) hpn]; exact kj c3 g4), (by omega)⟩)
    omega
   have et := c0
   try simp only [BS] at et
   refine aa (wUo 1 0 [(0, .o b4)] 46 46 [] [(46, b4)] (qn 52 0 6 (HS.hc ax (i := 3) rfl) rfl rfl rfl rfl) rfl fun _ => aA (aq rfl rfl rfl) rfl rfl (ma.fM ex ((c.blocks.getD k default).ins.getD n default) (HS.call ax) (by omega) (by omega) (by omega) (by omega) (by omega) bl hT) ?_)
   rintro _ ky ⟨hg, hC, k6, g7, hG, e2, dt, rfl, be, rfl⟩
   replace dt : HS _ _ _ [_, a2, _, _, _, g7] _ := HS.back ax rfl dt
   replace an := an.mono e2
   refine wTo 2 2 [] 48 49 [] [(48, (iI ((ab ((c.blocks.getD k default).ins.getD n default)).length : Int))), (49, (iI 0))] rfl fun _ => ae 2 rfl (aj (fun (mm : Nat) f H' => ∃ (o4 : List Int) (q : Nat) (T : Option Addr) (V : Nat) (a7 : Fp) (F' : Fz), Fz.le hG F' ∧ HS (Base.of H []) F' H' [ea, a7, go, he, f9, g7] R ∧ OS F' (.slice T o4.length V) o4 a7 ∧ aD f [(3, (.slice T o4.length V)), (5, (.pointer (some ⟨b3, 0, none⟩))), (19, (.slice ad c.blocks.length al)), (20, (iI (c.blocks.length : Int))), (21, (iI (k : Int))), (26, (.slice (cA (A k) 0) (c.blocks.getD k default).ins.length (cK (A k) 0))), (27, (iI ((c.blocks.getD k default).ins.length : Int))), (28, (iI (n : Int))), (47, (.slice hg (ab ((c.blocks.getD k default).ins.getD n default)).length hC)), (48, (iI ((ab ((c.blocks.getD k default).ins.getD n default)).length : Int))), (49, (iI (q : Int)))] ∧ mm = (ab ((c.blocks.getD k default).ins.getD n default)).length - q ∧ (CntF c (UsP c k n (az ((c.blocks.getD k default).ins.getD n default) ++ (ab ((c.blocks.getD k default).ins.getD n default)).take q)) o4) ∧ (q ≤ (ab ((c.blocks.getD k default).ins.getD n default)).length)) _ ⟨o3, 0, N, U, a2, _, fR, dt, an, ⟨rfl, rfl, rfl, rfl, rfl, rfl, rfl, rfl, rfl, rfl, rfl, trivial⟩, rfl, (by rw [a0f (show (az ((c.blocks.getD k default).ins.getD n default)).length ≤ p by omega)] at c3; rw [a2b, a0z]; exact c3), (by omega)⟩ ?_)
   rintro i3 kU kz ⟨o4, q, T, V, a7, jc, c8, a6, a0, e6, rfl, c4, hq⟩ hA
   refine ap _ e6 (fun _ => ?_)
   clear e6
   replace be := be.mono c8
   refine ah 1 rfl (wT 2 [] 50 50 [] [(50, (.bool (decide ((q : Int) < ((ab ((c.blocks.getD k default).ins.getD n default)).length : Int)))))] rfl fun _ => am 4 5 (v := (decide ((q : Int) < ((ab ((c.blocks.getD k default).ins.getD n default)).length : Int)))) rfl rfl rfl rfl (fun c5 => ?_) (fun c5 => ?_))
   ·
    have ez := c5
    try simp only [BS] at ez
    have hqn : q < (ab ((c.blocks.getD k default).ins.getD n default)).length := by omega
    have g5 := d3 hvl.2.1 hqn
    have k3 := cnt_rng c4 g5 (us_len vF e9 hbn (by rw [a05, a0g]; omega))
    obtain ⟨ib, f5⟩ := Sv.view (OS.sv be a6 (i := 5) rfl)
    have kX := fI (f5 q)
    refine wR 1 [(1, .o (iI ((ab ((c.blocks.getD k default).ins.getD n default)).getD q 0)))] 51 52 [11] [(11, (iI ((ab ((c.blocks.getD k default).ins.getD n default)).getD q 0)))] (vA (Sv.ix (j := (q : Int)) (OS.sv be a6 (i := 5) rfl) (by omega) (by omega)) (vA (ql 3 0 (vI (f5 q) (by omega)) rfl rfl) trivial)) rfl fun _ => aa ?_
    obtain ⟨ih, f6⟩ := Sv.view (OS.sv a0 a6 (i := 1) rfl)
    have kY := fI (f6 (((ab ((c.blocks.getD k default).ins.getD n default)).getD q 0).toNat))
    refine wRo 6 0 [(3, .o (iI (o4.getD (((ab ((c.blocks.getD k default).ins.getD n default)).getD q 0).toNat) 0)))] 53 58 [] [(57, (iI ((o4.getD (((ab ((c.blocks.getD k default).ins.getD n default)).getD q 0).toNat) 0) + 1))), (58, (.pointer (some ⟨sB (.slice T o4.length V), sO (.slice T o4.length V) + (((ab ((c.blocks.getD k default).ins.getD n default)).getD q 0).toNat) * Rp.sz Int, none⟩)))] (vA (Sv.ix (j := ((ab ((c.blocks.getD k default).ins.getD n default)).getD q 0)) (OS.sv a0 a6 (i := 1) rfl) (by omega) (by omega)) (vA (ql 3 0 (vI (f6 (((ab ((c.blocks.getD k default).ins.getD n default)).getD q 0).toNat)) (by omega)) rfl rfl) (vA (vi (n := (o4.getD (((ab ((c.blocks.getD k default).ins.getD n default)).getD q 0).toNat) 0) + 1) (by omega)) (vA (Sv.ix (j := ((ab ((c.blocks.getD k default).ins.getD n default)).getD q 0)) (OS.sv a0 a6 (i := 1) rfl) (by omega) (by omega)) trivial)))) rfl fun _ => aN (db (α := Int) (j := ((ab ((c.blocks.getD k default).ins.getD n default)).getD q 0).toNat) (off := 0) (q := 1) ((o4.getD (((ab ((c.blocks.getD k default).ins.getD n default)).getD q 0).toNat) 0) + 1) a0 a6 rfl rfl rfl rfl rfl rfl rfl rfl (aM (x := (0 : Int)) (by omega)) rfl (by rintro cs ⟨rfl, _⟩; exact ⟨a07 rfl, rfl, by omega⟩)) rfl ?_
    rintro _ kP g8 ⟨dk, (ht : HS _ _ _ [_, g8, _, _, _, _] _), _⟩
    have h5 := OS.len' dk
    refine ae 2 rfl (wU 1 [] 49 49 [59] [(49, (iI ((q : Int) + 1)))] (vi (n := (q : Int) + 1) (by omega)) rfl fun _ => hA _ _ _ ?_ ⟨o4.set (((ab ((c.blocks.getD k default).ins.getD n default)).getD q 0).toNat) ((o4.getD (((ab ((c.blocks.getD k default).ins.getD n default)).getD q 0).toNat) 0) + 1), q + 1, T, V, g8, _, (c8), ht, (OS.norm dk), (agC (show Value.slice T o4.length V = Value.slice T (o4.set (((ab ((c.blocks.getD k default).ins.getD n default)).getD q 0).toNat) ((o4.getD (((ab ((c.blocks.getD k default).ins.getD n default)).getD q 0).toNat) 0) + 1)).length V by rw [OS.len' dk]) ⟨rfl, rfl, rfl, rfl, rfl, rfl, rfl, rfl, rfl, rfl, trivial⟩), rfl, (by rw [bj (d := 0) hqn, ← a0l]; exact kj c4 g5), (by omega)⟩)
    omega
   have ez := c5
   try simp only [BS] at ez
   refine wU 1 [] 28 28 [60] [(28, (iI ((n : Int) + 1)))] (vi (n := (n : Int) + 1) (by omega)) rfl fun _ => hw _ _ _ ?_ ⟨o4, n + 1, T, V, a7, _, (fT (fT (fT (fT (b0) b5) b2) e2) c8), (HS.sub a6 (a03 _ _)), a0, ⟨rfl, rfl, rfl, rfl, rfl, rfl, rfl, rfl, trivial⟩, rfl, (by rw [a0f (show (ab ((c.blocks.getD k default).ins.getD n default)).length ≤ q by omega)] at c4; exact us_instr hnn ▸ c4), (by omega)⟩
   omega
  have es := co
  try simp only [BS] at es
  refine wR 1 [(1, .o (iI (c.blocks.getD k default).fin)), (5, .o (iI (c.blocks.getD k default).fin))] 61 68 [] [(68, (.bool (((c.blocks.getD k default).fin == 2) || ((c.blocks.getD k default).fin == 3))))] (vA (ql 3 1 (HS.hc ag (i := 2) rfl) rfl rfl) (vA (fun (g1 : ((c.blocks.getD k default).fin == 2) = false) => (ql 3 1 (HS.hc ag (i := 2) rfl) rfl rfl)) trivial)) rfl fun _ => am 0 2 (v := (((c.blocks.getD k default).fin == 2) || ((c.blocks.getD k default).fin == 3))) rfl rfl rfl rfl (fun c7 => ?_) (fun c7 => ?_)
  ·
   have b7 := c7
   try simp only [BS] at b7
   have hfe := b7
   have hrr : 0 ≤ (c.blocks.getD k default).reg ∧ (c.blocks.getD k default).reg < c.regs := vF.fin k hbn hfe
   have k4 := cnt_rng c2 hrr (us_len vF e9 hbn (by simp))
   refine aa ?_
   obtain ⟨ik, f7⟩ := Sv.view (OS.sv Z ag (i := 1) rfl)
   have kZ := fI (f7 (c.blocks.getD k default).reg.toNat)
   refine wRo 7 0 [(2, .o (iI (c.blocks.getD k default).reg)), (4, .o (iI (o2.getD (c.blocks.getD k default).reg.toNat 0)))] 69 75 [] [(74, (iI ((o2.getD (c.blocks.getD k default).reg.toNat 0) + 1))), (75, (.pointer (some ⟨sB (.slice E o2.length J), sO (.slice E o2.length J) + (c.blocks.getD k default).reg.toNat * Rp.sz Int, none⟩)))] (vA (ql 3 2 (HS.hc ag (i := 2) rfl) rfl rfl) (vA (Sv.ix (j := (c.blocks.getD k default).reg) (OS.sv Z ag (i := 1) rfl) (by omega) (by omega)) (vA (ql 3 0 (vI (f7 (c.blocks.getD k default).reg.toNat) (by omega)) rfl rfl) (vA (vi (n := (o2.getD (c.blocks.getD k default).reg.toNat 0) + 1) (by omega)) (vA (Sv.ix (j := (c.blocks.getD k default).reg) (OS.sv Z ag (i := 1) rfl) (by omega) (by omega)) trivial))))) rfl fun _ => aN (db (α := Int) (j := (c.blocks.getD k default).reg.toNat) (off := 0) (q := 1) ((o2.getD (c.blocks.getD k default).reg.toNat 0) + 1) Z ag rfl rfl rfl rfl rfl rfl rfl rfl (aM (x := (0 : Int)) (by omega)) rfl (by rintro cs ⟨rfl, _⟩; exact ⟨a07 rfl, rfl, by omega⟩)) rfl ?_
   rintro _ kQ g9 ⟨dl, (hu : HS _ _ _ [_, g9, _] _), _⟩
   have h6 := OS.len' dl
   refine ae 2 rfl (wU 1 [] 21 21 [76] [(21, (iI ((k : Int) + 1)))] (vi (n := (k : Int) + 1) (by omega)) rfl fun _ => f8 _ _ _ ?_ ⟨o2.set (c.blocks.getD k default).reg.toNat ((o2.getD (c.blocks.getD k default).reg.toNat 0) + 1), k + 1, E, J, g9, _, (fT (bz) b0), (HS.sub hu (a03 _ _)), (OS.norm dl), (agC (show Value.slice E o2.length J = Value.slice E (o2.set (c.blocks.getD k default).reg.toNat ((o2.getD (c.blocks.getD k default).reg.toNat 0) + 1)).length J by rw [OS.len' dl]) ⟨rfl, rfl, rfl, trivial⟩), rfl, (by (have c9 := kj c2 hrr; rw [a0V, ← end_yes hfe, show n = (c.blocks.getD k default).ins.length by omega] at c9; exact us_block hbn ▸ c9)), (by assumption)⟩)
   omega
  have b7 := c7
  try simp only [BS] at b7
  have hfe : ¬ ((c.blocks.getD k default).fin = 2 ∨ (c.blocks.getD k default).fin = 3) := by (have h9 := b7; omega)
  refine wU 1 [] 21 21 [76] [(21, (iI ((k : Int) + 1)))] (vi (n := (k : Int) + 1) (by omega)) rfl fun _ => f8 _ _ _ ?_ ⟨o2, k + 1, E, J, aw, _, (fT (bz) b0), (HS.sub ag (a03 _ _)), Z, ⟨rfl, rfl, rfl, rfl, trivial⟩, rfl, (by (rw [show n = (c.blocks.getD k default).ins.length by omega, ← end_no hfe] at c2; exact us_block hbn ▸ c2)), (by assumption)⟩
  omega
 have em := ci
 try simp only [BS] at em
 refine wT 1 [] 2 2 [77] [(2, (.slice ar o1.length av))] rfl fun _ => ?_
 obtain ⟨jq, hh, dv, hj, iv⟩ := OS.frz cc b6 (i := 1) rfl
 have dv : HS _ _ _ [_, []] _ := dv
 refine ak ⟨.inr rfl, _, rfl, ar, av, o1, _, (fT (fT (d2) bz) hh), (HS.forget dv), rfl, hj, (by exact fun _ => us_all (c := c) (k := k) (by omega) ▸ c1), (by exact fun h => absurd (hv.symm.trans h) (by decide))⟩
end Go.Proofs.YtknafdcgpaejlaaDoor.nc
