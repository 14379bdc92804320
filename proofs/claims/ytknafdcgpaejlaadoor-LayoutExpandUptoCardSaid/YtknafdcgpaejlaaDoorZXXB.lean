/-
 The reference interference graph, as far as its numbers; loose allocations: by symbolic runs. No condition but bounds on lengths.
-/
import Derived.Test.YtknafdcgpaejlaaDoorZXMJ
import Derived.Test.YtknafdcgpaejlaaDoorZXXA
import Derived.Test.YtknafdcgpaejlaaDoorZXRC
noncomputable section
namespace Go.Proofs.YtknafdcgpaejlaaDoor.xb
open Go.R
set_option maxRecDepth 10000
set_option linter.unusedVariables false
set_option linter.unusedSimpArgs false
open m1 m2 m3 m4 m5 m6 ma ml mb mc md mf mg mh mi mj xa
def RowB (c : VFnT) (l : List Int) : Prop := Asc l ∧ ∀ x ∈ l, 0 ≤ x ∧ x < c.regs
theorem RowB.ins {c : VFnT} {l : List Int} {n : Int} (h : RowB c l) (hn : 0 ≤ n ∧ n < c.regs) : RowB c (eb l n) := ⟨ins_asc h.1, fun x hx => by
 rcases ins_mem.1 hx with rfl | z
 ·
  exact hn
 exact h.2 x z⟩
theorem RowB.len {c : VFnT} {l : List Int} (h : RowB c l) (v : VF c) : l.length ≤ 3000 := by
 have z := v.regs
 have := iL 0 z.1 h.1 h.2
 omega
structure GB (c : VFnT) (g : List (List Int)) : Prop where
 len : g.length = c.regs.toNat
 row : ∀ r, RowB c (g.getD r default)
theorem GB.zero {c : VFnT} : GB c (List.replicate c.regs.toNat ([] : List Int)) := ⟨List.length_replicate, fun r => by
 have e : (List.replicate c.regs.toNat ([] : List Int)).getD r default = [] := by
  rw [List.getD_eq_getElem?_getD, List.getElem?_replicate]; split <;> rfl
 rw [e]; exact ⟨List.Pairwise.nil, fun x hx => nomatch hx⟩⟩
theorem GB.set {c : VFnT} {g : List (List Int)} {a : Nat} {x : List Int} (h : GB c g) (hx : RowB c x) : GB c (g.set a x) := ⟨List.length_set.trans h.len, fun r => by
 rw [at_set]; split
 ·
  exact hx
 exact h.row r⟩
set_option maxHeartbeats 4000000 in
theorem rinter_c (ex : FuncId) {a4 : Option Addr} {a6 : Nat} (c : VFnT) {F : Fz} {H : Heap} {R : List Fp} (hs : HS (.of H []) F H [] R) (kP : in64 c.params) (kQ : in64 c.regs) (av : SR F (.slice a4 c.blocks.length a6) c.blocks) (hT : TB 37 tabC F) (hins : ∀ j, (c.blocks.getD j default).ins.length ≤ 1073741824) (hv : dQ c = true) : C Tryd.prog 1 (KT 60 ex 37 tabC) 21 [(.agg ⟨[(iI c.params), (iI c.regs), (.slice a4 c.blocks.length a6)]⟩)] H fun v H' => ∃ (ag : Option Addr) (kg : Nat) (g : List (List Int)) (F' : Fz), Fz.le F F' ∧ HS (.of H []) F' H' [] R ∧ v = .slice ag g.length kg ∧ SR F' (.slice ag g.length kg) g ∧ (GB c g) := by
 have vF := vF_of hv
 have hnb := vF.nb
 have hrg := vF.regs
 refine aJ Tryd.func21 rfl rfl ?_
 refine aq 1 rfl ?_
 refine aa ?_
 refine aC (be hs rfl rfl) rfl rfl ?_
 rintro _ H2 _ ⟨b1, rfl, (f7 : HS _ _ _ [[(b1, .cells [(iI c.params), (iI c.regs), (.slice a4 c.blocks.length a6)] none false)]] _), _⟩
 refine wa (.slice none 0 0) rfl rfl rfl ?_
 refine ab 3 rfl ?_
 refine aa ?_
 let ch : Value := (.agg ⟨[(iI c.params), (iI c.regs), (.slice a4 c.blocks.length a6)]⟩)
 refine wRo 1 0 [(0, .o ch)] 12 12 [] [(12, ch)] (vA (qn 24 0 3 (HS.hc f7 (i := 0) rfl) rfl rfl rfl rfl) trivial) rfl fun _ => ?_
 refine az (am rfl rfl rfl) rfl rfl (m3.gE ex c (HS.call f7) (by omega) (by omega) av hT (by exact fun j => Nat.le_trans (hins j) (by omega))) ?_
 rintro _ H4 ⟨r4, F4, f1, ez, rfl, rfl⟩
 replace ez : HS _ _ _ [_] _ := HS.back f7 rfl ez
 refine wRo 1 2 [] 14 14 [] [(14, (.bool (!(dQ c))))] trivial rfl fun _ => ?_
 refine ab 1 rfl ?_
 refine wk_iff 2 (v := (!(dQ c))) rfl (by rw [hv]; rfl) rfl rfl ?_
 refine aa ?_
 refine wRo 2 0 [(1, .o (iI c.regs))] 15 16 [] [(16, (iI c.regs))] (vA (ql 3 1 (HS.hc ez (i := 0) rfl) rfl rfl) trivial) rfl fun _ => ?_
 refine aC (hP ([] : (List Int)) ez rfl rfl rfl rfl rfl rfl rfl rfl rfl ⟨none, 0, rfl, SR.nil⟩ (by omega) (by omega)) rfl rfl ?_
 rintro _ H8 p7 ⟨a7, k7, rfl, jb, (jc : HS _ _ _ [_, p7] _), _⟩
 refine wa (.slice a7 (List.replicate c.regs.toNat ([] : (List Int))).length k7) rfl rfl rfl ?_
 refine ab 3 rfl ?_
 refine wR 2 [] 1 0 [4] [(4, (iI 0))] trivial rfl fun _ => ?_
 let e1 : Fp := [(b1, .cells [(iI c.params), (iI c.regs), (.slice a4 c.blocks.length a6)] none false)]
 refine aE (fun (mm : Nat) f H' => ∃ (g1 : List (List Int)) (b : Nat) (ay : Option Addr) (a0 : Nat) (bl : Fp) (F' : Fz), Fz.le F4 F' ∧ HS (Base.of H []) F' H' [e1, bl] R ∧ OS F' (.slice ay g1.length a0) g1 bl ∧ aH f [(1, (.pointer (some ⟨b1, 0, none⟩))), (2, (.slice none 0 0)), (3, (.slice ay g1.length a0)), (4, (iI (b : Int)))] ∧ mm = c.blocks.length - b ∧ (GB c g1) ∧ (b ≤ c.blocks.length)) _ ⟨List.replicate c.regs.toNat ([] : (List Int)), 0, a7, k7, p7, _, fR, jc, jb, ⟨rfl, rfl, rfl, rfl, trivial⟩, rfl, (by exact GB.zero), (by omega)⟩ ?_
 rintro kU lf k6 ⟨g1, b, ay, a0, bl, kY, c0, cc, b0, f2, rfl, ja, hb⟩ h2
 refine au _ f2 (fun _ => ?_)
 clear f2
 replace hT := (hT.mono f1).mono c0
 replace av := (av.mono f1).mono c0
 refine aq 2 rfl ?_
 refine wR 1 [(2, .o (.slice a4 c.blocks.length a6))] 18 22 [] [(22, (.bool (decide ((b : Int) < (c.blocks.length : Int)))))] (vA (ql 22 2 (HS.hc cc (i := 0) rfl) rfl rfl) trivial) rfl fun _ => ?_
 refine ap 4 5 (v := (decide ((b : Int) < (c.blocks.length : Int)))) rfl rfl rfl rfl (fun dl => ?_) (fun dl => ?_)
 ·
  have e3 := dl
  try simp only [BS] at e3
  have hbn : b < c.blocks.length := by omega
  have hbl := hins b
  refine aa ?_
  refine wRo 2 0 [(0, .o ch)] 25 26 [] [(25, ch), (26, (iI (b : Int)))] (vA (qn 24 0 3 (HS.hc cc (i := 0) rfl) rfl rfl rfl rfl) trivial) rfl fun _ => ?_
  refine az (am rfl rfl rfl) rfl rfl (mj.rlp_c ex c (b : Int) (HS.call cc) (by omega) (by omega) av (by omega) hT (by assumption)) ?_
  rintro _ k8 ⟨a2, a3, z, ii, c3, d3, rfl, ar, kO, kN⟩
  replace d3 : HS _ _ _ [_, bl] _ := HS.back cc rfl d3
  replace b0 := b0.mono c3
  refine wa (.slice a2 z.length a3) rfl rfl rfl ?_
  refine ab 2 rfl ?_
  have pf : PtF c b z := (by assumption : dQ c = true → 0 ≤ ((b : Nat) : Int) → ((b : Nat) : Int) < (c.blocks.length : Int) → PtF c ((b : Nat) : Int).toNat z) hv (by omega) (by omega)
  have hpl : (z).length = (c.blocks.getD b default).ins.length + 1 := pf.len
  refine wR 2 [] 1 0 [6] [(6, (iI 0))] trivial rfl fun _ => ?_
  refine aE (fun (mm : Nat) f H' => ∃ (g2 : List (List Int)) (k : Nat) (a8 : Option Addr) (bb : Nat) (a1 : Fp) (F' : Fz), Fz.le ii F' ∧ HS (Base.of H []) F' H' [e1, a1] R ∧ OS F' (.slice a8 g2.length bb) g2 a1 ∧ aH f [(1, (.pointer (some ⟨b1, 0, none⟩))), (2, (.slice none 0 0)), (3, (.slice a8 g2.length bb)), (4, (iI (b : Int))), (5, (.slice a2 z.length a3)), (6, (iI (k : Int))), (22, (.bool (decide ((b : Int) < (c.blocks.length : Int))))), (25, ch), (26, (iI (b : Int))), (27, (.slice a2 z.length a3))] ∧ mm = (c.blocks.getD b default).ins.length - k ∧ (GB c g2) ∧ (k ≤ (c.blocks.getD b default).ins.length)) _ ⟨g1, 0, ay, a0, bl, _, fR, d3, b0, ⟨rfl, rfl, rfl, rfl, rfl, rfl, rfl, rfl, rfl, rfl, trivial⟩, rfl, (by omega), (by omega)⟩ ?_
  rintro kV lh k9 ⟨g2, k, a8, bb, a1, kZ, b8, ax, b2, f3, rfl, lp, hk⟩ h3
  refine au _ f3 (fun _ => ?_)
  clear f3
  replace hT := (hT.mono c3).mono b8
  replace av := (av.mono c3).mono b8
  replace ar := ar.mono b8
  refine aq 2 rfl ?_
  obtain ⟨fi, go⟩ := Sv.view (SR.sv av ax)
  obtain ⟨j0, j1, j2, kc, ky⟩ := BlkT.fx (go b)
  refine wR 1 [(2, .o (.slice a4 c.blocks.length a6)), (6, .o (.slice (cA (fi b) 0) (c.blocks.getD b default).ins.length (cK (fi b) 0)))] 28 36 [] [(36, (.bool (decide ((k : Int) < ((c.blocks.getD b default).ins.length : Int)))))] (vA (ql 22 2 (HS.hc ax (i := 0) rfl) rfl rfl) (vA (Sv.ix (j := (b : Int)) (SR.sv av ax) (by omega) (by omega)) (vA (ql 46 0 (BlkT.vw (go b) (by omega)) rfl rfl) trivial))) rfl fun _ => ?_
  refine ap 4 5 (v := (decide ((k : Int) < ((c.blocks.getD b default).ins.length : Int)))) rfl rfl rfl rfl (fun dn => ?_) (fun dn => ?_)
  ·
   have e4 := dn
   try simp only [BS] at e4
   have hkn : k < (c.blocks.getD b default).ins.length := by omega
   have pt : Lst ((z).getD (((k : Nat) : Int) + 1).toNat default) (ptS c b (k + 1)) := pf.pt (k + 1) hkn
   have hal := Lst.len pt hrg.1 (fun r h => pt_lt vF hbn h)
   have hwr : ∀ x ∈ ak ((c.blocks.getD b default).ins.getD k default), 0 ≤ x ∧ x < c.regs := (cG (vF.ins b hbn k hkn)).2.1
   have lv := iZ (v := ((c.blocks.getD b default).ins.getD k default))
   refine aa ?_
   obtain ⟨f0, g0⟩ := Sv.view (SR.sv av ax)
   obtain ⟨kd, ki, kj, kk, e0⟩ := BlkT.fx (g0 b)
   obtain ⟨b3, g5⟩ := Sv.view (SR.sv e0 ax)
   obtain ⟨kl, km, kn, ko, kp, hw⟩ := VInT.fx (g5 k)
   let b7 : Value := (.agg ⟨[(iI ((c.blocks.getD b default).ins.getD k default).i.op), (iI ((c.blocks.getD b default).ins.getD k default).i.a), (iI ((c.blocks.getD b default).ins.getD k default).i.b), (iI ((c.blocks.getD b default).ins.getD k default).i.c), (iI ((c.blocks.getD b default).ins.getD k default).i.n), (.slice (cA (b3 k) 5) ((c.blocks.getD b default).ins.getD k default).args.length (cK (b3 k) 5))]⟩)
   refine wRo 9 0 [(1, .o (.slice a4 c.blocks.length a6)), (5, .o (.slice (cA (f0 b) 0) (c.blocks.getD b default).ins.length (cK (f0 b) 0))), (8, .o b7)] 39 47 [] [(47, b7)] (vA (ql 22 2 (HS.hc ax (i := 0) rfl) rfl rfl) (vA (Sv.ix (j := (b : Int)) (SR.sv av ax) (by omega) (by omega)) (vA (ql 46 0 (BlkT.vw (g0 b) (by omega)) rfl rfl) (vA (Sv.ix (j := (k : Int)) (SR.sv e0 ax) (by omega) (by omega)) (vA (qn 52 0 6 (VInT.vw (g5 k) (by omega)) rfl rfl rfl rfl) trivial))))) rfl fun _ => ?_
   refine aC (aR ax rfl) rfl rfl ?_
   rintro _ la _ ⟨c9, rfl, (h1 : HS _ _ _ [_, a1, [(c9, .cells [(iI 0), (iI 0), (iI 0), (iI 0), (iI 0), (.slice none 0 0)] none false)]] _), _⟩
   refine aF (aw (q := 2) h1 rfl rfl rfl rfl rfl rfl rfl rfl rfl) rfl ?_
   rintro _ lb _ ⟨(d4 : HS _ _ _ [_, _, [(c9, .cells [(iI ((c.blocks.getD b default).ins.getD k default).i.op), (iI ((c.blocks.getD b default).ins.getD k default).i.a), (iI ((c.blocks.getD b default).ins.getD k default).i.b), (iI ((c.blocks.getD b default).ins.getD k default).i.c), (iI ((c.blocks.getD b default).ins.getD k default).i.n), (.slice (cA (b3 k) 5) ((c.blocks.getD b default).ins.getD k default).args.length (cK (b3 k) 5))] none false)]] _), _⟩
   refine ab 2 rfl ?_
   refine aa ?_
   refine wRo 1 0 [(0, .o b7)] 48 48 [] [(48, b7)] (vA (qn 52 0 6 (HS.hc d4 (i := 2) rfl) rfl rfl rfl rfl) trivial) rfl fun _ => ?_
   refine az (am rfl rfl rfl) rfl rfl (ma.hN ex ((c.blocks.getD b default).ins.getD k default) (HS.call d4) (by omega) (by omega) (by omega) (by omega) (by omega) hw hT) ?_
   rintro _ lc ⟨V, Z, lw, g9, ik, c4, em, rfl, T, rfl⟩
   replace em : HS _ _ _ [_, _, _, g9] _ := HS.back d4 rfl em
   replace b2 := b2.mono c4
   refine wa (.slice V (ak ((c.blocks.getD b default).ins.getD k default)).length Z) rfl rfl rfl ?_
   refine ab 2 rfl ?_
   refine wR 2 [] 1 0 [9] [(9, (iI 0))] trivial rfl fun _ => ?_
   let hC : Fp := [(c9, .cells [(iI ((c.blocks.getD b default).ins.getD k default).i.op), (iI ((c.blocks.getD b default).ins.getD k default).i.a), (iI ((c.blocks.getD b default).ins.getD k default).i.b), (iI ((c.blocks.getD b default).ins.getD k default).i.c), (iI ((c.blocks.getD b default).ins.getD k default).i.n), (.slice (cA (b3 k) 5) ((c.blocks.getD b default).ins.getD k default).args.length (cK (b3 k) 5))] none false)]
   refine aE (fun (mm : Nat) f H' => ∃ (g3 : List (List Int)) (i : Nat) (a9 : Option Addr) (bk : Nat) (bz : Fp) (F' : Fz), Fz.le ik F' ∧ HS (Base.of H []) F' H' [e1, bz, hC, g9] R ∧ OS F' (.slice a9 g3.length bk) g3 bz ∧ aH f [(1, (.pointer (some ⟨b1, 0, none⟩))), (2, (.slice none 0 0)), (3, (.slice a9 g3.length bk)), (4, (iI (b : Int))), (5, (.slice a2 z.length a3)), (6, (iI (k : Int))), (7, (.pointer (some ⟨c9, 0, none⟩))), (8, (.slice V (ak ((c.blocks.getD b default).ins.getD k default)).length Z)), (9, (iI (i : Int))), (22, (.bool (decide ((b : Int) < (c.blocks.length : Int))))), (25, ch), (26, (iI (b : Int))), (27, (.slice a2 z.length a3)), (36, (.bool (decide ((k : Int) < ((c.blocks.getD b default).ins.length : Int))))), (47, b7), (48, b7), (49, (.slice V (ak ((c.blocks.getD b default).ins.getD k default)).length Z))] ∧ mm = (ak ((c.blocks.getD b default).ins.getD k default)).length - i ∧ (GB c g3) ∧ (i ≤ (ak ((c.blocks.getD b default).ins.getD k default)).length)) _ ⟨g2, 0, a8, bb, a1, _, fR, em, b2, ⟨rfl, rfl, rfl, rfl, rfl, rfl, rfl, rfl, rfl, rfl, rfl, rfl, rfl, rfl, rfl, rfl, rfl, trivial⟩, rfl, (by omega), (by omega)⟩ ?_
   rintro kW lj ld ⟨g3, i, a9, bk, bz, it, b9, f9, dk, f4, rfl, lq, hi⟩ h4
   refine au _ f4 (fun _ => ?_)
   clear f4
   replace hT := (hT.mono c4).mono b9
   replace ar := (ar.mono c4).mono b9
   replace T := T.mono b9
   refine aq 2 rfl ?_
   refine wR 1 [] 50 53 [] [(53, (.bool (decide ((i : Int) < ((ak ((c.blocks.getD b default).ins.getD k default)).length : Int)))))] trivial rfl fun _ => ?_
   refine ap 4 5 (v := (decide ((i : Int) < ((ak ((c.blocks.getD b default).ins.getD k default)).length : Int)))) rfl rfl rfl rfl (fun ds => ?_) (fun ds => ?_)
   ·
    have e5 := ds
    try simp only [BS] at e5
    have hwl := lim_at hwr (k := i) (by omega)
    refine wR 2 [] 1 0 [10] [(10, (iI 0))] trivial rfl fun _ => ?_
    refine aE (fun (mm : Nat) f H' => ∃ (U : List (List Int)) (j : Nat) (A : Option Addr) (E : Nat) (an : Fp) (F' : Fz), Fz.le it F' ∧ HS (Base.of H []) F' H' [e1, an, hC, g9] R ∧ OS F' (.slice A U.length E) U an ∧ aH f [(1, (.pointer (some ⟨b1, 0, none⟩))), (2, (.slice none 0 0)), (3, (.slice A U.length E)), (4, (iI (b : Int))), (5, (.slice a2 z.length a3)), (6, (iI (k : Int))), (7, (.pointer (some ⟨c9, 0, none⟩))), (8, (.slice V (ak ((c.blocks.getD b default).ins.getD k default)).length Z)), (9, (iI (i : Int))), (10, (iI (j : Int))), (22, (.bool (decide ((b : Int) < (c.blocks.length : Int))))), (25, ch), (26, (iI (b : Int))), (27, (.slice a2 z.length a3)), (36, (.bool (decide ((k : Int) < ((c.blocks.getD b default).ins.length : Int))))), (47, b7), (48, b7), (49, (.slice V (ak ((c.blocks.getD b default).ins.getD k default)).length Z)), (53, (.bool (decide ((i : Int) < ((ak ((c.blocks.getD b default).ins.getD k default)).length : Int)))))] ∧ mm = ((z).getD (((k : Nat) : Int) + 1).toNat default).length - j ∧ (GB c U) ∧ (j ≤ ((z).getD (((k : Nat) : Int) + 1).toNat default).length)) _ ⟨g3, 0, a9, bk, bz, _, fR, f9, dk, ⟨rfl, rfl, rfl, rfl, rfl, rfl, rfl, rfl, rfl, rfl, rfl, rfl, rfl, rfl, rfl, rfl, rfl, rfl, rfl, trivial⟩, rfl, (by omega), (by omega)⟩ ?_
    rintro kX ll hB ⟨U, j, A, E, an, k0, b4, J, N, f5, rfl, co, hj⟩ g8
    refine au _ f5 (fun _ => ?_)
    clear f5
    replace hT := hT.mono b4
    replace ar := ar.mono b4
    replace T := T.mono b4
    refine aq 2 rfl ?_
    refine aa ?_
    refine wRo 3 0 [] 56 58 [] [(56, (iI (j : Int))), (57, (.slice a2 z.length a3)), (58, (iI (k : Int)))] trivial rfl fun _ => ?_
    refine az (am rfl rfl rfl) rfl rfl (mh.after_c ex z (k : Int) (HS.call J) ar (by omega) hT (by omega)) ?_
    rintro _ hB ⟨kE, kS, lz, rfl, rfl, kx, rfl⟩
    refine wRo 2 4 [] 60 61 [] [(61, (.bool (decide ((j : Int) < ((z.getD ((k : Int) + 1).toNat default).length : Int)))))] trivial rfl fun _ => ?_
    refine ab 1 rfl ?_
    refine ap 4 5 (v := (decide ((j : Int) < ((z.getD ((k : Int) + 1).toNat default).length : Int)))) rfl rfl rfl rfl (fun dt => ?_) (fun dt => ?_)
    ·
     have e6 := dt
     try simp only [BS] at e6
     have hyl : 0 ≤ (((z).getD (((k : Nat) : Int) + 1).toNat default).getD j 0) ∧ (((z).getD (((k : Nat) : Int) + 1).toNat default).getD j 0) < c.regs := by (have hm := (pt.mem _).1 (mem_at (l := ((z).getD (((k : Nat) : Int) + 1).toNat default)) (q := j) (by omega)); have hh := pt_lt vF hbn hm.2; omega)
     refine aa ?_
     refine wRo 2 0 [] 64 65 [] [(64, (.slice a2 z.length a3)), (65, (iI (k : Int)))] trivial rfl fun _ => ?_
     refine az (am rfl rfl rfl) rfl rfl (mh.after_c ex z (k : Int) (HS.call J) ar (by omega) hT (by omega)) ?_
     rintro _ hB ⟨kF, kT, lA, rfl, rfl, et, rfl⟩
     obtain ⟨kG, g6⟩ := Sv.view (SR.sv et J)
     have lm := fI (g6 j)
     refine wRo 4 3 [(5, .o (iI ((z.getD ((k : Int) + 1).toNat default).getD j 0)))] 67 69 [11] [(11, (iI ((z.getD ((k : Int) + 1).toNat default).getD j 0)))] (vA (Sv.ix (j := (j : Int)) (SR.sv et J) (by omega) (by omega)) (vA (ql 3 0 (vI (g6 j) (by omega)) rfl rfl) trivial)) rfl fun _ => ?_
     refine ab 2 rfl ?_
     obtain ⟨kH, g7⟩ := Sv.view (OS.sv T J (i := 3) rfl)
     have ln := fI (g7 i)
     refine wR 1 [(4, .o (iI ((ak ((c.blocks.getD b default).ins.getD k default)).getD i 0))), (9, .o (iI ((c.blocks.getD b default).ins.getD k default).i.op)), (15, .o (iI ((c.blocks.getD b default).ins.getD k default).i.b))] 70 89 [] [(89, (.bool ((((z.getD ((k : Int) + 1).toNat default).getD j 0) != ((ak ((c.blocks.getD b default).ins.getD k default)).getD i 0)) && (!((((c.blocks.getD b default).ins.getD k default).i.op == 10) && (((z.getD ((k : Int) + 1).toNat default).getD j 0) == ((c.blocks.getD b default).ins.getD k default).i.b))))))] (vA (Sv.ix (j := (i : Int)) (OS.sv T J (i := 3) rfl) (by omega) (by omega)) (vA (ql 3 0 (vI (g7 i) (by omega)) rfl rfl) (vA (fun (g1 : (((z.getD ((k : Int) + 1).toNat default).getD j 0) != ((ak ((c.blocks.getD b default).ins.getD k default)).getD i 0)) = true) => (ql 3 0 (HS.hc J (i := 2) rfl) rfl rfl)) (vA (fun (g1 : (((c.blocks.getD b default).ins.getD k default).i.op == 10) = true) (g2 : (((z.getD ((k : Int) + 1).toNat default).getD j 0) != ((ak ((c.blocks.getD b default).ins.getD k default)).getD i 0)) = true) => (ql 3 2 (HS.hc J (i := 2) rfl) rfl rfl)) trivial)))) rfl fun _ => ?_
     refine ap 0 2 (v := ((((z.getD ((k : Int) + 1).toNat default).getD j 0) != ((ak ((c.blocks.getD b default).ins.getD k default)).getD i 0)) && (!((((c.blocks.getD b default).ins.getD k default).i.op == 10) && (((z.getD ((k : Int) + 1).toNat default).getD j 0) == ((c.blocks.getD b default).ins.getD k default).i.b))))) rfl rfl rfl rfl (fun dv => ?_) (fun dv => ?_)
     ·
      have fd := dv
      try simp only [BS] at fd
      have hgl := co.len
      have lr := (co.row ((ak ((c.blocks.getD b default).ins.getD k default)).getD i 0).toNat).len vF
      have lu := (co.row (((z).getD (((k : Nat) : Int) + 1).toNat default).getD j 0).toNat).len vF
      refine aQ rfl ?_
      refine fm (.slice A U.length E) rfl rfl rfl ?_
      refine fm (.slice V (ak ((c.blocks.getD b default).ins.getD k default)).length Z) rfl rfl rfl ?_
      refine fm (iI (i : Int)) rfl rfl rfl ?_
      refine wfv (v := (.pointer (some ⟨sB (.slice V (ak ((c.blocks.getD b default).ins.getD k default)).length Z), sO (.slice V (ak ((c.blocks.getD b default).ins.getD k default)).length Z) + i * Rp.sz Int, none⟩))) (br (α := Int) (j := (i : Int)) rfl rfl rfl rfl (OS.sv T J.log0 (i := 3) rfl) (by omega) (by omega)) ?_
      obtain ⟨kI, hQ, hG⟩ := Sv.at (OS.sv T J.log0 (i := 3) rfl) (aK (x := (0 : Int)) (show i < (ak ((c.blocks.getD b default).ins.getD k default)).length from by omega))
      obtain ⟨rfl, kr⟩ := hQ
      refine aB (v := (iI ((ak ((c.blocks.getD b default).ins.getD k default)).getD i 0))) (id := .l (sB (.slice V (ak ((c.blocks.getD b default).ins.getD k default)).length Z))) (bh (i := 0) rfl rfl hG rfl rfl) rfl rfl (bg rfl) (kb rfl) ?_
      refine fm (.slice A U.length E) rfl rfl rfl ?_
      refine fm (iI ((z.getD ((k : Int) + 1).toNat default).getD j 0)) rfl rfl rfl ?_
      refine fm (.slice A U.length E) rfl rfl rfl ?_
      refine fm (.slice V (ak ((c.blocks.getD b default).ins.getD k default)).length Z) rfl rfl rfl ?_
      refine fm (iI (i : Int)) rfl rfl rfl ?_
      refine wfv (v := (.pointer (some ⟨sB (.slice V (ak ((c.blocks.getD b default).ins.getD k default)).length Z), sO (.slice V (ak ((c.blocks.getD b default).ins.getD k default)).length Z) + i * Rp.sz Int, none⟩))) (br (α := Int) (j := (i : Int)) rfl rfl rfl rfl (OS.sv T J.log0 (i := 3) rfl) (by omega) (by omega)) ?_
      obtain ⟨kJ, hS, hH⟩ := Sv.at (OS.sv T J.log0 (i := 3) rfl) (aK (x := (0 : Int)) (show i < (ak ((c.blocks.getD b default).ins.getD k default)).length from by omega))
      obtain ⟨rfl, kt⟩ := hS
      refine aB (v := (iI ((ak ((c.blocks.getD b default).ins.getD k default)).getD i 0))) (id := .l (sB (.slice V (ak ((c.blocks.getD b default).ins.getD k default)).length Z))) (bh (i := 0) rfl rfl hH rfl rfl) rfl rfl (bg rfl) (kb rfl) ?_
      refine wfv (v := (.pointer (some ⟨sB (.slice A U.length E), sO (.slice A U.length E) + (((ak ((c.blocks.getD b default).ins.getD k default)).getD i 0).toNat) * Rp.sz (List Int), none⟩))) (br (α := (List Int)) (j := ((ak ((c.blocks.getD b default).ins.getD k default)).getD i 0)) rfl rfl rfl rfl (OS.sv N J.log0 (i := 1) rfl) (by omega) (by omega)) ?_
      obtain ⟨kK, hV, hI⟩ := Sv.at (OS.sv N J.log0 (i := 1) rfl) (aK (x := default) (show ((ak ((c.blocks.getD b default).ins.getD k default)).getD i 0).toNat < U.length from by omega))
      obtain ⟨hf, ht, rfl, hz⟩ := hV
      refine aB (v := (.slice hf (U.getD (((ak ((c.blocks.getD b default).ins.getD k default)).getD i 0).toNat) default).length ht)) (id := .l (sB (.slice A U.length E))) (bh (i := 0) rfl rfl hI rfl rfl) rfl rfl (bg rfl) (kb rfl) ?_
      refine fm (iI ((z.getD ((k : Int) + 1).toNat default).getD j 0)) rfl rfl rfl ?_
      refine aX (W := []) (am rfl rfl rfl) rfl rfl rfl (m6.dT ex (U.getD (((ak ((c.blocks.getD b default).ins.getD k default)).getD i 0).toNat) default) ((z.getD ((k : Int) + 1).toNat default).getD j 0) (HS.call J.log0) hz (by omega) hT (by omega)) (⟨.inl rfl, ⟨.inl rfl, ⟨.inl rfl, ⟨.inl rfl, ⟨.inl rfl, ⟨.inl rfl, ⟨.inl rfl, ⟨.inl rfl, ⟨.inr trivial, ⟨.inr trivial, ⟨.inr List.not_mem_nil, ⟨.inr trivial, ⟨.inr trivial, ⟨.inr trivial, ⟨.inr trivial, trivial⟩⟩⟩⟩⟩⟩⟩⟩⟩⟩⟩⟩⟩⟩⟩) ?_
      rintro _ iv ⟨hD, h5, lB, k3, c5, ad, rfl, c8, rfl⟩
      refine ⟨Wr.did ad.log, fun h7 hl => ?_⟩
      replace ad := HS.back J.log0 rfl ad
      replace ad := HS.lg ad J hl
      generalize ({ iv with log := h7 } : Heap) = kA at ad ⊢
      have ad : HS _ _ _ [_, an, _, _] _ := ad
      replace hT := hT.mono c5
      replace T := T.mono c5
      replace N := N.mono c5
      refine fm (.slice A U.length E) rfl rfl rfl ?_
      refine fm (iI ((z.getD ((k : Int) + 1).toNat default).getD j 0)) rfl rfl rfl ?_
      refine wfv (v := (.pointer (some ⟨sB (.slice A U.length E), sO (.slice A U.length E) + (((z.getD ((k : Int) + 1).toNat default).getD j 0).toNat) * Rp.sz (List Int), none⟩))) (br (α := (List Int)) (j := ((z.getD ((k : Int) + 1).toNat default).getD j 0)) rfl rfl rfl rfl (OS.sv N ad.log0 (i := 1) rfl) (by omega) (by omega)) ?_
      obtain ⟨kL, hW, hK⟩ := Sv.at (OS.sv N ad.log0 (i := 1) rfl) (aK (x := default) (show ((z.getD ((k : Int) + 1).toNat default).getD j 0).toNat < U.length from by omega))
      obtain ⟨hg, hu, rfl, hA⟩ := hW
      refine aB (v := (.slice hg (U.getD (((z.getD ((k : Int) + 1).toNat default).getD j 0).toNat) default).length hu)) (id := .l (sB (.slice A U.length E))) (bh (i := 0) rfl rfl hK rfl rfl) rfl rfl (bg rfl) (⟨.inl rfl, ⟨.inl rfl, ⟨.inl rfl, ⟨.inr List.not_mem_nil, ⟨.inr trivial, ⟨.inr trivial, ⟨.inr trivial, ⟨.inr trivial, ⟨.inr trivial, ⟨.inr trivial, ⟨.inr trivial, ⟨.inr trivial, ⟨.inr trivial, ⟨.inr trivial, ⟨.inr trivial, ⟨.inr trivial, ⟨.inr trivial, ⟨.inr trivial, ⟨.inr trivial, trivial⟩⟩⟩⟩⟩⟩⟩⟩⟩⟩⟩⟩⟩⟩⟩⟩⟩⟩⟩) ?_
      refine fm (.slice V (ak ((c.blocks.getD b default).ins.getD k default)).length Z) rfl rfl rfl ?_
      refine fm (iI (i : Int)) rfl rfl rfl ?_
      refine wfv (v := (.pointer (some ⟨sB (.slice V (ak ((c.blocks.getD b default).ins.getD k default)).length Z), sO (.slice V (ak ((c.blocks.getD b default).ins.getD k default)).length Z) + i * Rp.sz Int, none⟩))) (br (α := Int) (j := (i : Int)) rfl rfl rfl rfl (OS.sv T ad.log0 (i := 3) rfl) (by omega) (by omega)) ?_
      obtain ⟨kM, hX, hM⟩ := Sv.at (OS.sv T ad.log0 (i := 3) rfl) (aK (x := (0 : Int)) (show i < (ak ((c.blocks.getD b default).ins.getD k default)).length from by omega))
      obtain ⟨rfl, ku⟩ := hX
      refine aB (v := (iI ((ak ((c.blocks.getD b default).ins.getD k default)).getD i 0))) (id := .l (sB (.slice V (ak ((c.blocks.getD b default).ins.getD k default)).length Z))) (bh (i := 0) rfl rfl hM rfl rfl) rfl rfl (bg rfl) (⟨.inl rfl, ⟨.inl rfl, ⟨.inl rfl, ⟨.inr trivial, ⟨.inr trivial, ⟨.inr trivial, ⟨.inr trivial, ⟨.inr List.not_mem_nil, ⟨.inr trivial, ⟨.inr trivial, ⟨.inr trivial, ⟨.inr trivial, ⟨.inr trivial, ⟨.inr trivial, ⟨.inr trivial, ⟨.inr trivial, ⟨.inr trivial, ⟨.inr trivial, ⟨.inr trivial, ⟨.inr trivial, ⟨.inr trivial, ⟨.inr trivial, ⟨.inr trivial, trivial⟩⟩⟩⟩⟩⟩⟩⟩⟩⟩⟩⟩⟩⟩⟩⟩⟩⟩⟩⟩⟩⟩⟩) ?_
      refine aX (W := []) (am rfl rfl rfl) rfl rfl rfl (m6.dT ex (U.getD (((z.getD ((k : Int) + 1).toNat default).getD j 0).toNat) default) ((ak ((c.blocks.getD b default).ins.getD k default)).getD i 0) (HS.call ad.log0) hA (by omega) hT (by omega)) (⟨.inl rfl, ⟨.inl rfl, ⟨.inl rfl, ⟨.inl rfl, ⟨.inl rfl, ⟨.inl rfl, ⟨.inl rfl, ⟨.inl rfl, ⟨.inl rfl, ⟨.inl rfl, ⟨.inl rfl, ⟨.inl rfl, ⟨.inl rfl, ⟨.inl rfl, ⟨.inl rfl, ⟨.inl rfl, ⟨.inl rfl, ⟨.inr trivial, ⟨.inr trivial, ⟨.inr List.not_mem_nil, ⟨.inr trivial, ⟨.inr trivial, ⟨.inr trivial, ⟨.inr trivial, trivial⟩⟩⟩⟩⟩⟩⟩⟩⟩⟩⟩⟩⟩⟩⟩⟩⟩⟩⟩⟩⟩⟩⟩⟩) ?_
      rintro _ iz ⟨hE, h6, lC, k4, d2, al, rfl, hr, rfl⟩
      refine ⟨Wr.did al.log, fun h8 hn => ?_⟩
      replace al := HS.back ad.log0 rfl al
      replace al := HS.lg al ad hn
      generalize ({ iz with log := h8 } : Heap) = kB at al ⊢
      have al : HS _ _ _ [_, _, _, _] _ := al
      replace c8 := c8.mono d2
      replace N := N.mono d2
      refine wfv (v := (.pointer (some ⟨sB (.slice A U.length E), sO (.slice A U.length E) + (((ak ((c.blocks.getD b default).ins.getD k default)).getD i 0).toNat) * Rp.sz (List Int), none⟩))) (br (α := (List Int)) (j := ((ak ((c.blocks.getD b default).ins.getD k default)).getD i 0)) rfl rfl rfl rfl (OS.sv N al.log0 (i := 1) rfl) (by omega) (by omega)) ?_
      refine jz (id := .x (an.map Prod.fst)) (dF (α := (List Int)) (j := ((ak ((c.blocks.getD b default).ins.getD k default)).getD i 0).toNat) (off := 0) (q := 1) (eb (U.getD (((ak ((c.blocks.getD b default).ins.getD k default)).getD i 0).toNat) default) ((z.getD ((k : Int) + 1).toNat default).getD j 0)) N al.log0 rfl rfl rfl rfl rfl rfl rfl rfl (aK (x := default) (by omega)) rfl (by rintro cs ⟨_, _, rfl, _⟩; exact ⟨Nat.le_of_ble_eq_true rfl, ⟨hD, h5, rfl, c8⟩⟩)) rfl (by rintro _ _ ha ⟨c6, _, hwr⟩; exact dh rfl rfl (Wr.did hwr)) (kb rfl) ?_
      rintro _ i1 ha ⟨c6, a5, _⟩ ib hp
      replace a5 := HS.lg a5 al hp
      generalize ({ i1 with log := ib } : Heap) = kC at a5 ⊢
      have a5 : HS _ _ _ [_, ha, _, _] _ := a5
      have kv := OS.len' c6
      refine wfv (v := (.pointer (some ⟨sB (.slice A U.length E), sO (.slice A U.length E) + (((z.getD ((k : Int) + 1).toNat default).getD j 0).toNat) * Rp.sz (List Int), none⟩))) (br (α := (List Int)) (j := ((z.getD ((k : Int) + 1).toNat default).getD j 0)) rfl rfl rfl rfl (OS.sv c6 a5.log0 (i := 1) rfl) (by omega) (by omega)) ?_
      refine jz (id := .x (ha.map Prod.fst)) (dF (α := (List Int)) (j := ((z.getD ((k : Int) + 1).toNat default).getD j 0).toNat) (off := 0) (q := 1) (eb (U.getD (((z.getD ((k : Int) + 1).toNat default).getD j 0).toNat) default) ((ak ((c.blocks.getD b default).ins.getD k default)).getD i 0)) c6 a5.log0 rfl rfl rfl rfl rfl rfl rfl rfl (aK (x := default) (by omega)) rfl (by rintro cs ⟨_, _, rfl, _⟩; exact ⟨Nat.le_of_ble_eq_true rfl, ⟨hE, h6, rfl, hr⟩⟩)) rfl (by rintro _ _ he ⟨c7, _, hwr⟩; exact dh rfl rfl (Wr.did hwr)) (kb rfl) ?_
      rintro _ i2 he ⟨c7, b6, _⟩ ih hq
      replace b6 := HS.lg b6 a5 hq
      generalize ({ i2 with log := ih } : Heap) = kD at b6 ⊢
      have b6 : HS _ _ _ [_, he, _, _] _ := b6
      have kw := OS.len' c7
      refine bU ?_
      refine aq 2 rfl ?_
      refine wR 1 [] 62 63 [10] [(10, (iI ((j : Int) + 1)))] (vA (vi (n := (j : Int) + 1) (by omega)) trivial) rfl fun _ => ?_
      refine g8 _ _ _ ?_ ⟨(U.set (((ak ((c.blocks.getD b default).ins.getD k default)).getD i 0).toNat) (eb (U.getD (((ak ((c.blocks.getD b default).ins.getD k default)).getD i 0).toNat) default) ((z.getD ((k : Int) + 1).toNat default).getD j 0))).set (((z.getD ((k : Int) + 1).toNat default).getD j 0).toNat) (eb (U.getD (((z.getD ((k : Int) + 1).toNat default).getD j 0).toNat) default) ((ak ((c.blocks.getD b default).ins.getD k default)).getD i 0)), j + 1, A, E, he, _, (fT (fT (b4) c5) d2), b6, (OS.norm c7), (agC rfl (agC rfl (agC (show Value.slice A U.length E = Value.slice A ((U.set (((ak ((c.blocks.getD b default).ins.getD k default)).getD i 0).toNat) (eb (U.getD (((ak ((c.blocks.getD b default).ins.getD k default)).getD i 0).toNat) default) ((z.getD ((k : Int) + 1).toNat default).getD j 0))).set (((z.getD ((k : Int) + 1).toNat default).getD j 0).toNat) (eb (U.getD (((z.getD ((k : Int) + 1).toNat default).getD j 0).toNat) default) ((ak ((c.blocks.getD b default).ins.getD k default)).getD i 0))).length E by rw [OS.len' c7]) ⟨rfl, rfl, rfl, rfl, rfl, rfl, rfl, rfl, rfl, rfl, rfl, rfl, rfl, rfl, rfl, rfl, trivial⟩))), rfl, (by exact (co.set ((co.row _).ins hyl)).set ((co.row _).ins hwl)), (by omega)⟩
      omega
     have fd := dv
     try simp only [BS] at fd
     refine wR 1 [] 62 63 [10] [(10, (iI ((j : Int) + 1)))] (vA (vi (n := (j : Int) + 1) (by omega)) trivial) rfl fun _ => ?_
     refine g8 _ _ _ ?_ ⟨U, j + 1, A, E, an, _, (b4), J, N, ⟨rfl, rfl, rfl, rfl, rfl, rfl, rfl, rfl, rfl, rfl, rfl, rfl, rfl, rfl, rfl, rfl, rfl, rfl, rfl, trivial⟩, rfl, (by assumption), (by omega)⟩
     omega
    have e6 := dt
    try simp only [BS] at e6
    refine wR 1 [] 54 55 [9] [(9, (iI ((i : Int) + 1)))] (vA (vi (n := (i : Int) + 1) (by omega)) trivial) rfl fun _ => ?_
    refine h4 _ _ _ ?_ ⟨U, i + 1, A, E, an, _, (fT (b9) b4), J, N, ⟨rfl, rfl, rfl, rfl, rfl, rfl, rfl, rfl, rfl, rfl, rfl, rfl, rfl, rfl, rfl, rfl, rfl, trivial⟩, rfl, (by omega), (by omega)⟩
    omega
   have e5 := ds
   try simp only [BS] at e5
   refine wR 1 [] 37 38 [6] [(6, (iI ((k : Int) + 1)))] (vA (vi (n := (k : Int) + 1) (by omega)) trivial) rfl fun _ => ?_
   refine h3 _ _ _ ?_ ⟨g3, k + 1, a9, bk, bz, _, (fT (fT (b8) c4) b9), (HS.sub f9 (List.sublist_append_left _ _)), dk, ⟨rfl, rfl, rfl, rfl, rfl, rfl, rfl, rfl, rfl, rfl, trivial⟩, rfl, (by omega), (by omega)⟩
   omega
  have e4 := dn
  try simp only [BS] at e4
  refine wR 1 [] 23 24 [4] [(4, (iI ((b : Int) + 1)))] (vA (vi (n := (b : Int) + 1) (by omega)) trivial) rfl fun _ => ?_
  refine h2 _ _ _ ?_ ⟨g2, b + 1, a8, bb, a1, _, (fT (fT (c0) c3) b8), ax, b2, ⟨rfl, rfl, rfl, rfl, trivial⟩, rfl, (by omega), (by omega)⟩
  omega
 have e3 := dl
 try simp only [BS] at e3
 refine wR 1 [] 2 2 [117] [(2, (.slice ay g1.length a0))] trivial rfl fun _ => ?_
 obtain ⟨k5, hF, es, hY, kR⟩ := OS.frz b0 cc (i := 1) rfl
 have es : HS _ _ _ [_, []] _ := es
 refine ah ⟨.inr rfl, _, rfl, ay, a0, g1, _, (fT (fT (f1) c0) hF), (HS.forget es), rfl, hY, (by exact ja)⟩
set_option maxHeartbeats 2000000 in
theorem loose_c (ex : FuncId) {a1 : Option Addr} {a7 : Nat} (c : VFnT) {a_l : Option Addr} {k_l : Nat} (l : List Int) {F : Fz} {H : Heap} {R : List Fp} (hs : HS (.of H []) F H [] R) (hE : in64 c.params) (hF : in64 c.regs) (a9 : SR F (.slice a1 c.blocks.length a7) c.blocks) (hl : SR F (.slice a_l l.length k_l) l) (hT : TB 37 tabC F) (hins : ∀ j, (c.blocks.getD j default).ins.length ≤ 1073741824) (hv : dQ c = true) : C Tryd.prog 1 (KT 60 ex 37 tabC) 34 [(.agg ⟨[(iI c.params), (iI c.regs), (.slice a1 c.blocks.length a7)]⟩), (.slice a_l l.length k_l)] H fun v H' => ∃ (x : AllT) (c4 : Option Addr) (em : Nat) (c5 : Option Addr) (es : Nat) (F' : Fz), Fz.le F F' ∧ HS (.of H []) F' H' [] R ∧ v = .agg ⟨[.slice c4 x.locs.length em, .slice c5 x.spi.length es, .int .i64 x.slots]⟩ ∧ in64 x.slots ∧ SR F' (.slice c4 x.locs.length em) x.locs ∧ SR F' (.slice c5 x.spi.length es) x.spi := by
 have vF := vF_of hv
 have hrg := vF.regs
 have hpr := vF.params
 refine aJ Tryd.func34 rfl rfl ?_
 refine aq 1 rfl ?_
 refine aa ?_
 refine aC (be hs rfl rfl) rfl rfl ?_
 rintro _ H2 _ ⟨b1, rfl, (ha : HS _ _ _ [[(b1, .cells [(iI c.params), (iI c.regs), (.slice a1 c.blocks.length a7)] none false)]] _), _⟩
 refine aC (aR ha rfl) rfl rfl ?_
 rintro _ H4 _ ⟨b3, rfl, (dv : HS _ _ _ [_, [(b3, .cells [(.slice none 0 0), (.slice none 0 0), (iI 0)] none false)]] _), _⟩
 refine ab 2 rfl ?_
 refine aQ rfl ?_
 refine wfv (v := (.pointer (some ⟨b1, 1, none⟩))) (cg rfl rfl) ?_
 refine aB (v := (iI c.regs)) (id := .l b1) (bh (i := 1) rfl rfl (HS.hc dv.log0 (i := 0) rfl) rfl rfl) rfl rfl (bg rfl) (kb rfl) ?_
 refine cL (id := .x []) (hP (default : LocT) dv.log0 rfl rfl rfl rfl rfl rfl rfl rfl rfl ⟨rfl, by decide⟩ (by omega) (by omega)) rfl rfl (by rintro _ _ p5 ⟨a5, k5, rfl, c3, _, hwr⟩; exact dh rfl rfl (Wr.did hwr)) (kb rfl) ?_
 rintro _ H6 p5 ⟨a5, k5, rfl, c3, av, _⟩ hb f2
 replace av := HS.lg av dv f2
 generalize ({ H6 with log := hb } : Heap) = hW at av ⊢
 have av : HS _ _ _ [_, _, p5] _ := av
 refine wfv (v := (.pointer (some ⟨b1, 0, none⟩))) (cg rfl rfl) ?_
 refine aB (v := (iI c.params)) (id := .l b1) (bh (i := 0) rfl rfl (HS.hc av.log0 (i := 0) rfl) rfl rfl) rfl rfl (bg rfl) (⟨.inl rfl, ⟨.inr List.not_mem_nil, ⟨.inr trivial, ⟨.inr trivial, trivial⟩⟩⟩⟩) ?_
 refine wfv (v := (.pointer (some ⟨b1, 1, none⟩))) (cg rfl rfl) ?_
 refine aB (v := (iI c.regs)) (id := .l b1) (bh (i := 1) rfl rfl (HS.hc av.log0 (i := 0) rfl) rfl rfl) rfl rfl (bg rfl) (⟨.inl rfl, ⟨.inr trivial, ⟨.inr trivial, ⟨.inr List.not_mem_nil, ⟨.inr trivial, ⟨.inr trivial, trivial⟩⟩⟩⟩⟩⟩) ?_
 refine wfv (v := (iI (c.params + c.regs))) (ap_add rfl rfl (w_i64 (n := c.params + c.regs) (by omega))) ?_
 refine wfv (v := (.agg ⟨[(.slice a5 (List.replicate c.regs.toNat (default : LocT)).length k5), (.slice none 0 0), (iI (c.params + c.regs))]⟩)) (ap_bld rfl rfl (by kernel_rfl)) ?_
 refine cL (id := .a) (aR av.log0 rfl) rfl rfl (fun _ _ _ _ => iU rfl rfl rfl) (kb rfl) ?_
 rintro _ H8 _ ⟨b7, rfl, a6, _⟩ he f3
 replace a6 := HS.lg a6 av f3
 generalize ({ H8 with log := he } : Heap) = hX at a6 ⊢
 have a6 : HS _ _ _ [_, _, _, [(b7, .cells [(.slice none 0 0), (.slice none 0 0), (iI 0)] none false)]] _ := a6
 refine jz (id := .x [b7]) (aw (q := 3) a6.log0 rfl rfl rfl rfl rfl rfl rfl rfl rfl) rfl (by rintro _ _ _ ⟨_, hwr⟩; exact dh rfl rfl (Wr.did hwr)) (kb rfl) ?_
 rintro _ H9 _ ⟨ax, _⟩ hf f4
 replace ax := HS.lg ax a6 f4
 generalize ({ H9 with log := hf } : Heap) = hY at ax ⊢
 have ax : HS _ _ _ [_, _, _, [(b7, .cells [(.slice a5 (List.replicate c.regs.toNat (default : LocT)).length k5), (.slice none 0 0), (iI (c.params + c.regs))] none false)]] _ := ax
 refine bU ?_
 refine aq 2 rfl ?_
 refine aQ rfl ?_
 let fi : Value := (.agg ⟨[(iI c.params), (iI c.regs), (.slice a1 c.blocks.length a7)]⟩)
 refine aB (v := fi) (id := .l b1) (bQ (i := 0) rfl rfl rfl (HS.hc ax.log0 (i := 0) rfl) rfl rfl rfl) rfl rfl (bg rfl) trivial ?_
 refine aX (W := []) (am rfl rfl rfl) rfl rfl rfl (rinter_c ex c (HS.call ax.log0) (by omega) (by omega) a9 hT (by omega) (by omega)) (kb rfl) ?_
 rintro _ g7 ⟨bz, co, E, hK, a2, T, rfl, V, hC⟩
 refine ⟨Wr.did T.log, fun g0 e2 => ?_⟩
 replace T := HS.back ax.log0 rfl T
 replace T := HS.lg T ax e2
 generalize ({ g7 with log := g0 } : Heap) = hm at T ⊢
 have T : HS _ _ _ [_, _, _, _] _ := T
 replace hT := hT.mono a2
 replace a9 := a9.mono a2
 refine aB (v := fi) (id := .l b1) (bQ (i := 0) rfl rfl rfl (HS.hc T.log0 (i := 0) rfl) rfl rfl rfl) rfl rfl (bg rfl) (⟨.inr List.not_mem_nil, ⟨.inr trivial, trivial⟩⟩) ?_
 refine aX (W := []) (am rfl rfl rfl) rfl rfl rfl (mj.rac_c ex c (HS.call T.log0) (by omega) (by omega) a9 hT (by omega)) (kb rfl) ?_
 rintro _ g8 ⟨b0, c0, ay, g5, a3, Z, rfl, bb, hD, hB⟩
 refine ⟨Wr.did Z.log, fun g3 e3 => ?_⟩
 replace Z := HS.back T.log0 rfl Z
 replace Z := HS.lg Z T e3
 generalize ({ g8 with log := g3 } : Heap) = hn at Z ⊢
 have Z : HS _ _ _ [_, _, _, _] _ := Z
 replace c3 := (c3.mono a2).mono a3
 refine fa (.slice bz E.length co) rfl rfl rfl ?_
 refine fa (.slice b0 ay.length c0) rfl rfl rfl ?_
 refine bU ?_
 refine aq 3 rfl ?_
 have gb : GB c E := by assumption
 have hgl := gb.len
 have hcl := Lst.len ((by assumption : dQ c = true → Lst ay (acS c)) hv) hrg.1 (fun r h => ack_lt vF (Nat.le_refl _) h)
 refine wR 2 [] 1 0 [8] [(8, (iI 0))] trivial rfl fun _ => ?_
 refine aE (fun (mm : Nat) f H' => ∃ (ll : List LocT) (r : Nat) (U : Fp) (z : Option Addr) (A : Nat) (F' : Fz), Fz.le g5 F' ∧ HS (Base.of H []) F' H' [[(b1, .cells [(iI c.params), (iI c.regs), (.slice a1 c.blocks.length a7)] none false)], [(b3, .cells [(.slice none 0 0), (.slice none 0 0), (iI 0)] none false)], U, [(b7, .cells [(.slice z ll.length A), (.slice none 0 0), (iI (c.params + c.regs))] none false)]] R ∧ OS F' (.slice z ll.length A) ll U ∧ aH f [(1, (.slice a_l l.length k_l)), (2, (.pointer (some ⟨b1, 0, none⟩))), (4, (.pointer (some ⟨b3, 0, none⟩))), (5, (.pointer (some ⟨b7, 0, none⟩))), (6, (.slice bz E.length co)), (7, (.slice b0 ay.length c0)), (8, (iI (r : Int)))] ∧ mm = c.regs.toNat - r ∧ (ll.length = c.regs.toNat) ∧ (r ≤ c.regs.toNat)) _ ⟨List.replicate c.regs.toNat (default : LocT), 0, p5, a5, k5, _, fR, Z, c3, ⟨rfl, rfl, rfl, rfl, rfl, rfl, rfl, trivial⟩, rfl, (by simp), (by omega)⟩ ?_
 rintro hH h1 hM ⟨ll, r, U, z, A, e5, ag, ar, al, dn, rfl, hlr, hr⟩ ci
 refine au _ dn (fun _ => ?_)
 clear dn
 replace hT := (hT.mono a3).mono ag
 replace hl := ((hl.mono a2).mono a3).mono ag
 replace V := (V.mono a3).mono ag
 replace bb := bb.mono ag
 have grow := gb.row r
 refine aq 2 rfl ?_
 refine wR 1 [(2, .o (iI c.regs))] 25 28 [] [(28, (.bool (decide ((r : Int) < c.regs))))] (vA (ql 3 1 (HS.hc ar (i := 0) rfl) rfl rfl) trivial) rfl fun _ => ?_
 refine ap 4 5 (v := (decide ((r : Int) < c.regs))) rfl rfl rfl rfl (fun b2 => ?_) (fun b2 => ?_)
 ·
  have c8 := b2
  try simp only [BS] at c8
  refine aa ?_
  let f0 : Value := (.agg ⟨[(.bool true), (iI (c.params + (r : Int)))]⟩)
  refine wRo 9 0 [(1, .o (.slice z ll.length A)), (4, .o (iI c.params))] 31 39 [] [(38, f0), (39, (.pointer (some ⟨sB (.slice z ll.length A), sO (.slice z ll.length A) + r * Rp.sz LocT, none⟩)))] (vA (ql 37 0 (HS.hc ar (i := 3) rfl) rfl rfl) (vA (ql 3 0 (HS.hc ar (i := 0) rfl) rfl rfl) (vA (vi (n := c.params + (r : Int)) (by omega)) (vA (Sv.ix (j := (r : Int)) (OS.sv al ar (i := 2) rfl) (by omega) (by omega)) trivial)))) rfl fun _ => ?_
  refine aF (dF (α := LocT) (j := r) (off := 0) (q := 2) (⟨true, c.params + (r : Int)⟩ : LocT) al ar rfl rfl rfl rfl rfl rfl rfl rfl (aK (x := default) (by omega)) rfl (st_whole (F := e5) (Y := (⟨true, c.params + (r : Int)⟩ : LocT)) (cl := [(.bool true), (iI (c.params + (r : Int)))]) ⟨rfl, by (dsimp only; omega)⟩)) rfl ?_
  rintro _ g9 et ⟨an, (a4 : HS _ _ _ [_, _, et, [(b7, .cells [(.slice z ll.length A), (.slice none 0 0), (iI (c.params + c.regs))] none false)]] _), _⟩
  have hh := OS.len' an
  refine ab 3 rfl ?_
  refine wR 1 [(7, .o (.bool (conV ay (r : Int))))] 40 53 [] [(53, (.bool (((decide ((l.length : Int) ≤ (r : Int))) || conV ay (r : Int)) || ((E.length : Int) == 0))))] (vA (fun (N : (decide ((l.length : Int) ≤ (r : Int))) = false) => (m6.gh ex ay (r : Int) (HS.call a4) bb (by (try simp only [BS] at N); (first | (dsimp only; omega) | omega)) hT (by (try simp only [BS] at N); (first | (dsimp only; omega) | omega)))) trivial) rfl fun _ => ?_
  refine ap 3 2 (v := (((decide ((l.length : Int) ≤ (r : Int))) || conV ay (r : Int)) || ((E.length : Int) == 0))) rfl rfl rfl rfl (fun b4 => ?_) (fun b4 => ?_)
  ·
   have c9 := b4
   try simp only [BS] at c9
   refine wR 1 [] 29 30 [8] [(8, (iI ((r : Int) + 1)))] (vA (vi (n := (r : Int) + 1) (by omega)) trivial) rfl fun _ => ?_
   refine ci _ _ _ ?_ ⟨ll.set r (⟨true, c.params + (r : Int)⟩ : LocT), r + 1, et, z, A, _, (ag), (by simpa only [List.length_set] using a4), (OS.norm an), ⟨rfl, rfl, rfl, rfl, rfl, rfl, rfl, trivial⟩, rfl, (by simp only [List.length_set]; exact hlr), (by omega)⟩
   omega
  have c9 := b4
  try simp only [BS] at c9
  have hpk := dw (l.getD r 0) 8 (by omega)
  refine aa ?_
  obtain ⟨hu, d2⟩ := Sv.view (SR.sv hl a4)
  have h3 := fI (d2 r)
  have hA := dw (l.getD r 0) (8 : Int)
  let bl : Value := (.agg ⟨[(.bool false), (iI (aS (l.getD r 0) (8 : Int)))]⟩)
  refine wRo 6 0 [(3, .o (iI (l.getD r 0))), (4, .o (iI (aS (l.getD r 0) (8 : Int))))] 54 59 [] [(59, bl)] (vA (Sv.ix (j := (r : Int)) (SR.sv hl a4) (by omega) (by omega)) (vA (ql 3 0 (vI (d2 r) (by omega)) rfl rfl) (vA (m1.eK ex (l.getD r 0) (8) g9 (by omega)) trivial))) rfl fun _ => ?_
  refine aC (aR a4 rfl) rfl rfl ?_
  rintro _ hQ _ ⟨c6, rfl, (f7 : HS _ _ _ [_, _, _, _, [(c6, .cells [(.bool false), (iI 0)] none false)]] _), _⟩
  refine aF (aw (q := 4) f7 rfl rfl rfl rfl rfl rfl rfl rfl rfl) rfl ?_
  rintro _ e6 _ ⟨(J : HS _ _ _ [_, _, _, _, [(c6, .cells [(.bool false), (iI (aS (l.getD r 0) (8 : Int)))] none false)]] _), _⟩
  refine ab 2 rfl ?_
  refine wR 3 [(1, .o (iI (aS (l.getD r 0) (8 : Int))))] 60 62 [10] [(10, (.bool (decide (aS (l.getD r 0) (8 : Int) < 5))))] (vA (ql 3 1 (HS.hc J (i := 4) rfl) rfl rfl) trivial) rfl fun _ => ?_
  refine wR 2 [] 1 0 [11] [(11, (iI 0))] trivial rfl fun _ => ?_
  refine aE (fun (mm : Nat) f H' => ∃ (fr : Bool) (k : Nat), H' = e6 ∧ aH f [(1, (.slice a_l l.length k_l)), (2, (.pointer (some ⟨b1, 0, none⟩))), (4, (.pointer (some ⟨b3, 0, none⟩))), (5, (.pointer (some ⟨b7, 0, none⟩))), (6, (.slice bz E.length co)), (7, (.slice b0 ay.length c0)), (8, (iI (r : Int))), (9, (.pointer (some ⟨c6, 0, none⟩))), (10, (.bool fr)), (11, (iI (k : Int))), (28, (.bool (decide ((r : Int) < c.regs)))), (38, f0), (39, (.pointer (some ⟨sB (.slice z ll.length A), sO (.slice z ll.length A) + r * Rp.sz LocT, none⟩))), (53, (.bool (((decide ((l.length : Int) ≤ (r : Int))) || conV ay (r : Int)) || ((E.length : Int) == 0)))), (59, bl)] ∧ mm = ((E).getD r default).length - k ∧ (k ≤ ((E).getD r default).length)) _ ⟨(decide (aS (l.getD r 0) (8 : Int) < 5)), 0, rfl, ⟨rfl, rfl, rfl, rfl, rfl, rfl, rfl, rfl, rfl, rfl, rfl, rfl, rfl, rfl, rfl, trivial⟩, rfl, (by omega)⟩ ?_
  rintro hI h2 e6 ⟨fr, k, rfl, ds, rfl, hk⟩ go
  refine au _ ds (fun _ => ?_)
  clear ds
  have hrl := grow.len vF
  refine aq 2 rfl ?_
  obtain ⟨dl, d3⟩ := Sv.view (SR.sv V J)
  have h5 := fL (d3 r)
  refine wR 1 [(4, .o (.slice (cA (dl r) 0) (E.getD r default).length (cK (dl r) 0)))] 63 69 [] [(69, (.bool (decide ((k : Int) < ((E.getD r default).length : Int)))))] (vA (Sv.ix (j := (r : Int)) (SR.sv V J) (by omega) (by omega)) (vA (ql 25 0 (vL (d3 r) (by omega)) rfl rfl) trivial)) rfl fun _ => ?_
  refine ap 3 5 (v := (decide ((k : Int) < ((E.getD r default).length : Int)))) rfl rfl rfl rfl (fun b6 => ?_) (fun b6 => ?_)
  ·
   have dd := b6
   try simp only [BS] at dd
   have hxl := lim_at grow.2 (k := k) (by omega)
   obtain ⟨a8, cc⟩ := Sv.view (SR.sv V J)
   have ez := fL (cc r)
   obtain ⟨hw, ch⟩ := Sv.view (SR.sv ez J)
   have h4 := fI (ch k)
   obtain ⟨hz, d4⟩ := Sv.view (OS.sv an J (i := 2) rfl)
   have hg := LocT.fx (d4 ((E.getD r default).getD k 0).toNat)
   refine wRD 2 [(5, .o (.slice (cA (a8 r) 0) (E.getD r default).length (cK (a8 r) 0))), (8, .o (iI ((E.getD r default).getD k 0))), (13, .o (.slice z ll.length A)), (17, .o (.slice (cA (a8 r) 0) (E.getD r default).length (cK (a8 r) 0))), (20, .o (iI ((E.getD r default).getD k 0))), (22, .o (.agg ⟨[(.bool (((ll.set r (⟨true, c.params + (r : Int)⟩ : LocT)).getD ((E.getD r default).getD k 0).toNat default).inS)), (iI (((ll.set r (⟨true, c.params + (r : Int)⟩ : LocT)).getD ((E.getD r default).getD k 0).toNat default).idx))]⟩)), (23, .o bl), (24, .o (.bool (!(((((ll.set r (⟨true, c.params + (r : Int)⟩ : LocT)).getD ((E.getD r default).getD k 0).toNat default).inS) == false) && (((((ll.set r (⟨true, c.params + (r : Int)⟩ : LocT)).getD ((E.getD r default).getD k 0).toNat default).idx) == (aS (l.getD r 0) (8 : Int))) && true)))))] 72 98 [10] [(10, (.bool (fr && ((decide ((r : Int) < ((E.getD r default).getD k 0))) || (!(((((ll.set r (⟨true, c.params + (r : Int)⟩ : LocT)).getD ((E.getD r default).getD k 0).toNat default).inS) == false) && (((((ll.set r (⟨true, c.params + (r : Int)⟩ : LocT)).getD ((E.getD r default).getD k 0).toNat default).idx) == (aS (l.getD r 0) (8 : Int))) && true)))))))] (vA (fun (N : fr = true) => (Sv.ix (j := (r : Int)) (SR.sv V J) (by (try simp only [BS] at N); (first | (dsimp only; omega) | omega)) (by (try simp only [BS] at N); (first | (dsimp only; omega) | omega)))) (vA (fun (N : fr = true) => (ql 25 0 (hc0 (vL (cc r) (by (try simp only [BS] at N); (first | (dsimp only; omega) | omega)))) rfl rfl)) (vA (fun (N : fr = true) => (Sv.ix (j := (k : Int)) (SR.sv ez J) (by (try simp only [BS] at N); (first | (dsimp only; omega) | omega)) (by (try simp only [BS] at N); (first | (dsimp only; omega) | omega)))) (vA (fun (N : fr = true) => (ql 3 0 (hc0 (vI (ch k) (by (try simp only [BS] at N); (first | (dsimp only; omega) | omega)))) rfl rfl)) (vA (fun (N : (decide ((r : Int) < ((E.getD r default).getD k 0))) = false) (g2 : fr = true) => (ql 37 0 (hc0 (HS.hc J (i := 3) rfl)) rfl rfl)) (vA (fun (N : (decide ((r : Int) < ((E.getD r default).getD k 0))) = false) (g2 : fr = true) => (Sv.ix (j := (r : Int)) (SR.sv V J) (by (try simp only [BS] at N g2); (first | (dsimp only; omega) | omega)) (by (try simp only [BS] at N g2); (first | (dsimp only; omega) | omega)))) (vA (fun (N : (decide ((r : Int) < ((E.getD r default).getD k 0))) = false) (g2 : fr = true) => (ql 25 0 (hc0 (vL (cc r) (by (try simp only [BS] at N g2); (first | (dsimp only; omega) | omega)))) rfl rfl)) (vA (fun (N : (decide ((r : Int) < ((E.getD r default).getD k 0))) = false) (g2 : fr = true) => (Sv.ix (j := (k : Int)) (SR.sv ez J) (by (try simp only [BS] at N g2); (first | (dsimp only; omega) | omega)) (by (try simp only [BS] at N g2); (first | (dsimp only; omega) | omega)))) (vA (fun (N : (decide ((r : Int) < ((E.getD r default).getD k 0))) = false) (g2 : fr = true) => (ql 3 0 (hc0 (vI (ch k) (by (try simp only [BS] at N g2); (first | (dsimp only; omega) | omega)))) rfl rfl)) (vA (fun (N : (decide ((r : Int) < ((E.getD r default).getD k 0))) = false) (g2 : fr = true) => (Sv.ix (j := ((E.getD r default).getD k 0)) (OS.sv an J (i := 2) rfl) (by (try simp only [BS] at N g2); (first | (dsimp only; omega) | omega)) (by (try simp only [BS] at N g2); (first | (dsimp only; omega) | omega)))) (vA (fun (N : (decide ((r : Int) < ((E.getD r default).getD k 0))) = false) (g2 : fr = true) => (qn 57 0 2 (hc0 (LocT.vw (d4 ((E.getD r default).getD k 0).toNat) (by (try simp only [BS] at N g2); (first | (dsimp only; omega) | omega)))) rfl rfl rfl rfl)) (vA (fun (N : (decide ((r : Int) < ((E.getD r default).getD k 0))) = false) (g2 : fr = true) => (qn 57 0 2 (hc0 (HS.hc J (i := 4) rfl)) rfl rfl rfl rfl)) (vA (fun (N : (decide ((r : Int) < ((E.getD r default).getD k 0))) = false) (g2 : fr = true) => (agNe (P := Tryd.prog) (t := 57) (xs := [(.bool (((ll.set r (⟨true, c.params + (r : Int)⟩ : LocT)).getD ((E.getD r default).getD k 0).toNat default).inS)), (iI (((ll.set r (⟨true, c.params + (r : Int)⟩ : LocT)).getD ((E.getD r default).getD k 0).toNat default).idx))]) (ys := [(.bool false), (iI (aS (l.getD r 0) (8 : Int)))]) (bs := [((((ll.set r (⟨true, c.params + (r : Int)⟩ : LocT)).getD ((E.getD r default).getD k 0).toNat default).inS) == false), ((((ll.set r (⟨true, c.params + (r : Int)⟩ : LocT)).getD ((E.getD r default).getD k 0).toNat default).idx) == (aS (l.getD r 0) (8 : Int)))]) rfl rfl rfl (by kernel_rfl) (by kernel_rfl) (.cons ⟨by decide, _, _, rfl, rfl, eqB rfl⟩ (.cons ⟨by decide, _, _, rfl, rfl, eqI rfl⟩ .nil)))) trivial))))))))))))) rfl rfl fun _ => ?_
   refine wR 1 [] 70 71 [11] [(11, (iI ((k : Int) + 1)))] (vA (vi (n := (k : Int) + 1) (by omega)) trivial) rfl fun _ => ?_
   refine go _ _ _ ?_ ⟨(fr && ((decide ((r : Int) < ((E.getD r default).getD k 0))) || (!(((((ll.set r (⟨true, c.params + (r : Int)⟩ : LocT)).getD ((E.getD r default).getD k 0).toNat default).inS) == false) && (((((ll.set r (⟨true, c.params + (r : Int)⟩ : LocT)).getD ((E.getD r default).getD k 0).toNat default).idx) == (aS (l.getD r 0) (8 : Int))) && true))))), k + 1, rfl, ⟨rfl, rfl, rfl, rfl, rfl, rfl, rfl, rfl, rfl, rfl, rfl, rfl, rfl, rfl, rfl, trivial⟩, rfl, (by omega)⟩
   omega
  have dd := b6
  try simp only [BS] at dd
  refine wR 1 [] 99 99 [] [(99, (.bool fr))] trivial rfl fun _ => ?_
  refine ap 0 2 (v := fr) rfl rfl rfl rfl (fun b8 => ?_) (fun b8 => ?_)
  ·
   have dk := b8
   try simp only [BS] at dk
   refine aa ?_
   refine wRo 5 0 [(1, .o (.slice z ll.length A)), (3, .o bl)] 100 104 [] [(103, bl), (104, (.pointer (some ⟨sB (.slice z ll.length A), sO (.slice z ll.length A) + r * Rp.sz LocT, none⟩)))] (vA (ql 37 0 (HS.hc J (i := 3) rfl) rfl rfl) (vA (qn 57 0 2 (HS.hc J (i := 4) rfl) rfl rfl rfl rfl) (vA (Sv.ix (j := (r : Int)) (OS.sv an J (i := 2) rfl) (by omega) (by omega)) trivial))) rfl fun _ => ?_
   refine aF (dF (α := LocT) (j := r) (off := 0) (q := 2) (⟨false, aS (l.getD r 0) (8 : Int)⟩ : LocT) an J rfl rfl rfl rfl rfl rfl rfl rfl (aK (x := default) (by omega)) rfl (st_whole (F := e5) (Y := (⟨false, aS (l.getD r 0) (8 : Int)⟩ : LocT)) (cl := [(.bool false), (iI (aS (l.getD r 0) (8 : Int)))]) ⟨rfl, by (dsimp only; omega)⟩)) rfl ?_
   rintro _ hS fd ⟨dt, (f9 : HS _ _ _ [_, _, fd, _, _] _), _⟩
   have hj := OS.len' dt
   refine ab 2 rfl ?_
   refine wR 1 [] 29 30 [8] [(8, (iI ((r : Int) + 1)))] (vA (vi (n := (r : Int) + 1) (by omega)) trivial) rfl fun _ => ?_
   refine ci _ _ _ ?_ ⟨(ll.set r (⟨true, c.params + (r : Int)⟩ : LocT)).set r (⟨false, aS (l.getD r 0) (8 : Int)⟩ : LocT), r + 1, fd, z, A, _, (ag), (by simpa only [List.length_set] using (HS.sub f9 (List.sublist_append_left _ _))), (OS.norm dt), ⟨rfl, rfl, rfl, rfl, rfl, rfl, rfl, trivial⟩, rfl, (by simp only [List.length_set]; exact hlr), (by omega)⟩
   omega
  have dk := b8
  try simp only [BS] at dk
  refine wR 1 [] 29 30 [8] [(8, (iI ((r : Int) + 1)))] (vA (vi (n := (r : Int) + 1) (by omega)) trivial) rfl fun _ => ?_
  refine ci _ _ _ ?_ ⟨ll.set r (⟨true, c.params + (r : Int)⟩ : LocT), r + 1, et, z, A, _, (ag), (by simpa only [List.length_set] using (HS.sub J (List.sublist_append_left _ _))), (OS.norm an), ⟨rfl, rfl, rfl, rfl, rfl, rfl, rfl, trivial⟩, rfl, (by simp only [List.length_set]; exact hlr), (by omega)⟩
  omega
 have c8 := b2
 try simp only [BS] at c8
 refine aa ?_
 let e0 : Value := (.agg ⟨[(.slice z ll.length A), (.slice none 0 0), (iI (c.params + c.regs))]⟩)
 refine wRo 1 0 [(0, .o e0)] 105 105 [] [(105, e0)] (vA (qn 40 0 3 (HS.hc ar (i := 3) rfl) rfl rfl rfl rfl) trivial) rfl fun _ => ?_
 refine aF (aw (q := 1) ar rfl rfl rfl rfl rfl rfl rfl rfl rfl) rfl ?_
 rintro _ hV _ ⟨(d1 : HS _ _ _ [_, [(b3, .cells [(.slice z ll.length A), (.slice none 0 0), (iI (c.params + c.regs))] none false)], U, [(b7, .cells [(.slice z ll.length A), (.slice none 0 0), (iI (c.params + c.regs))] none false)]] _), _⟩
 refine ab 1 rfl ?_
 obtain ⟨g6, f1, b9, f5, hG⟩ := OS.frz al d1 (i := 2) rfl
 have b9 : HS _ _ _ [_, _, [], _] _ := b9
 refine ah ⟨.inr rfl, _, (rC rfl (ldVN rfl rfl (HS.hc d1 (i := 1) rfl) rfl) rN), (⟨ll, ([] : List SpiT), c.params + c.regs⟩ : AllT), z, A, none, 0, _, (fT (fT (fT (a2) a3) ag) f1), (HS.forget b9), rfl, (by (dsimp only; omega)), f5, (SR.nil : SR g6 (.slice none 0 0) ([] : List SpiT))⟩
end Go.Proofs.YtknafdcgpaejlaaDoor.xb
