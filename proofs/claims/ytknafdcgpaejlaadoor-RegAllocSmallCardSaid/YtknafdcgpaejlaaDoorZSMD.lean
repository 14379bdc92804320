/-
 Live registers: Blocks, Points and AcrossCalls, each by a symbolic run. No condition but bounds on lengths.
-/
import Derived.Test.YtknafdcgpaejlaaDoorZSMC
noncomputable section
namespace Go.Proofs.YtknafdcgpaejlaaDoor.md
open Go.R
set_option maxRecDepth 10000
set_option linter.unusedVariables false
set_option linter.unusedSimpArgs false
open m1 m2 m3 m4 m5 m6 ma ml mb mc
structure Lst (l : List Int) (S : Nat → Prop) : Prop where
 asc : Asc l
 mem : ∀ x, x ∈ l ↔ 0 ≤ x ∧ S x.toNat
theorem lst_of {s : List U64} {S : Nat → Prop} (h : ∀ r, ap s r = true ↔ S r) : Lst (e7 s) S := ⟨lst_asc, fun x => by rw [lst_mem, h]⟩
structure BkF (c : VFnT) (x y : List (List Int)) : Prop where
 lx : x.length = c.blocks.length
 ly : y.length = c.blocks.length
 hx : ∀ b, b < c.blocks.length → Lst (x.getD b default) (LIn c b)
 hy : ∀ b, b < c.blocks.length → Lst (y.getD b default) (LOut c b)
def ptS (c : VFnT) (b i : Nat) : Nat → Prop := tr ((bz c b).ins.drop i) (endS (bz c b) (LOut c b))
structure PtF (c : VFnT) (b : Nat) (l : List (List Int)) : Prop where
 len : l.length = (bz c b).ins.length + 1
 pt : ∀ i, i ≤ (bz c b).ins.length → Lst (l.getD i default) (ptS c b i)
def acI (c : VFnT) (b i r : Nat) : Prop := ((bz c b).ins.getD i default).i.op = 6 ∧ ((ptS c b (i + 1) r ∧ (r : Int) ≠ ((bz c b).ins.getD i default).i.a) ∨ (r : Int) ∈ ((bz c b).ins.getD i default).args)
def acS (c : VFnT) (r : Nat) : Prop := ∃ b i, b < c.blocks.length ∧ i < (bz c b).ins.length ∧ acI c b i r
theorem at_snoc {α : Type} {d : α} {l : List α} {x : α} {j : Nat} : (l ++ [x]).getD j d = if j = l.length then x else l.getD j d := by
 rw [List.getD_eq_getElem?_getD, List.getD_eq_getElem?_getD, List.getElem?_append]
 by_cases h : j < l.length
 ·
  rw [if_pos h, if_neg (by omega)]
 rw [if_neg h]
 by_cases A : j = l.length
 ·
  subst A; rw [if_pos rfl, Nat.sub_self]; rfl
 rw [if_neg A, List.getElem?_eq_none (by simp; omega), List.getElem?_eq_none (by omega)]
theorem lst_snoc {l : List (List Int)} {S : Nat → Nat → Prop} {k : Nat} {x : List Int} (hl : l.length = k) (h : ∀ b, b < k → Lst (l.getD b default) (S b)) (hx : Lst x (S k)) : ∀ b, b < k + 1 → Lst ((l ++ [x]).getD b default) (S b) := fun b hb => by
 rw [at_snoc]
 split
 ·
  rename_i e; rw [hl] at e; subst e; exact hx
 exact h b (by omega)
theorem pt_start {c : VFnT} {b n : Nat} {s z : List U64} (hn : (bz c b).ins.length ≤ n) (hs : ∀ r, ap s r = true ↔ LOut c b r) (h : ∀ i, ap z i = (ap s i || decide ((i : Int) ∈ endV (bz c b)))) (r : Nat) : ap z r = true ↔ ptS c b n r := tr_start hn hs h r
set_option maxHeartbeats 1000000 in
theorem blocks_c (ex : FuncId) {a7 : Option Addr} {bk : Nat} (c : VFnT) {F : Fz} {H : Heap} {R : List Fp} (hs : HS (.of H []) F H [] R) (h0 : in64 c.params) (h1 : in64 c.regs) (b4 : SR F (.slice a7 c.blocks.length bk) c.blocks) (hT : TB 37 tabC F) (hins : ∀ j, (c.blocks.getD j default).ins.length ≤ 1073741824) : C Tryd.prog 1 (KT 60 ex 37 tabC) 71 [(.agg ⟨[(iI c.params), (iI c.regs), (.slice a7 c.blocks.length bk)]⟩)] H fun v H' => ∃ (ax : Option Addr) (kx : Nat) (x : List (List Int)) (ay : Option Addr) (ky : Nat) (y : List (List Int)) (F' : Fz), Fz.le F F' ∧ HS (.of H []) F' H' [] R ∧ v = .tuple ⟨[.slice ax x.length kx, .slice ay y.length ky]⟩ ∧ SR F' (.slice ax x.length kx) x ∧ SR F' (.slice ay y.length ky) y ∧ (ef c = true → BkF c x y) ∧ (ef c = false → x = [] ∧ y = []) := by
 refine aM Tryd.func71 rfl rfl ?_
 refine am 1 rfl ?_
 refine aa ?_
 refine aK (cF hs rfl rfl) rfl rfl ?_
 rintro _ H2 _ ⟨b1, rfl, (et : HS _ _ _ [[(b1, .cells [(iI c.params), (iI c.regs), (.slice a7 c.blocks.length bk)] none false)]] _), _⟩
 refine wRo 2 1 [] 2 3 [] [(2, (.slice none 0 0)), (3, (.slice none 0 0))] trivial rfl fun _ => ?_
 refine aj 3 rfl ?_
 refine aa ?_
 let dd : Value := (.agg ⟨[(iI c.params), (iI c.regs), (.slice a7 c.blocks.length bk)]⟩)
 refine wRo 1 0 [(0, .o dd)] 9 9 [] [(9, dd)] (vA (qn 24 0 3 (HS.hc et (i := 0) rfl) rfl rfl rfl rfl) trivial) rfl fun _ => ?_
 refine aE (aB rfl rfl rfl) rfl rfl (m3.gV ex c (HS.call et) (by omega) (by omega) b4 hT (by exact fun j => Nat.le_trans (hins j) (by omega))) ?_
 rintro _ H5 ⟨r5, F5, c9, b0, rfl, rfl⟩
 replace b0 : HS _ _ _ [_] _ := HS.back et rfl b0
 replace hT := hT.mono c9
 replace b4 := b4.mono c9
 refine wRo 1 2 [] 11 11 [] [(11, (.bool (!(ef c))))] trivial rfl fun _ => ?_
 refine aj 1 rfl ?_
 refine au 1 2 (v := (!(ef c))) rfl rfl rfl rfl (fun dv => ?_) (fun dv => ?_)
 ·
  have c7 := dv
  try simp only [BS] at c7
  have hv := c7
  refine wR 1 [] 2 3 [] [(2, (.slice none 0 0)), (3, (.slice none 0 0))] trivial rfl fun _ => ?_
  refine az ⟨.inr rfl, _, rfl, none, 0, ([] : List (List Int)), none, 0, ([] : List (List Int)), _, (c9), (HS.forget b0), rfl, (SR.nil : SR F5 (.slice none 0 0) ([] : List (List Int))), (SR.nil : SR F5 (.slice none 0 0) ([] : List (List Int))), (by first | exact fun h => absurd (h.symm.trans hv) (by decide) | exact fun _ => ⟨by omega, by omega, fun b hb => e4 b (by omega), fun b hb => e5 b (by omega)⟩), (by first | exact fun _ => ⟨rfl, rfl⟩ | exact fun h => absurd (hv.symm.trans h) (by decide))⟩
 have c7 := dv
 try simp only [BS] at c7
 have hv := c7
 have vF := vF_of hv
 have hnb := vF.nb
 refine aa ?_
 refine wRo 1 0 [(0, .o dd)] 13 13 [] [(13, dd)] (vA (qn 24 0 3 (HS.hc b0 (i := 0) rfl) rfl rfl rfl rfl) trivial) rfl fun _ => ?_
 refine aE (aB rfl rfl rfl) rfl rfl (mc.analyze_c ex c (HS.call b0) (by omega) (by omega) b4 hT (by first | assumption | exact fun j => Nat.le_trans (hins j) (by omega)) (by first | assumption | exact fun j => Nat.le_trans (hins j) (by omega))) ?_
 rintro _ it ⟨aw, a1, A, a0, a2, E, dk, d1, c3, rfl, a3, I, i3⟩
 replace c3 : HS _ _ _ [_] _ := HS.back b0 rfl c3
 refine wRo 5 2 [] 15 16 [4, 5, 12] [(4, (.slice aw A.length a1)), (5, (.slice a0 E.length a2))] trivial rfl fun _ => ?_
 refine aj 2 rfl ?_
 have an := (by assumption : AnF c _ _)
 have hli := an.li
 have hlo := an.lo
 refine wR 3 [] 1 0 [6, 7] [(6, (.slice none 0 0)), (7, (.slice none 0 0))] trivial rfl fun _ => ?_
 refine wR 2 [] 17 19 [] [(18, (iI (A.length : Int))), (19, (iI 0))] trivial rfl fun _ => ?_
 have c4 := HS.snoc c3
 have c4 : HS _ _ _ [_, []] _ := c4
 have c5 := HS.snoc c4
 have c5 : HS _ _ _ [_, _, []] _ := c5
 refine ak (fun (mm : Nat) f H' => ∃ (xs : List (List Int)) (ys : List (List Int)) (k : Nat) (N : Option Addr) (U : Nat) (av : Fp) (O : Option Addr) (V : Nat) (Z : Fp) (F' : Fz), Fz.le dk F' ∧ HS (Base.of H []) F' H' [[(b1, .cells [(iI c.params), (iI c.regs), (.slice a7 c.blocks.length bk)] none false)], av, Z] R ∧ OS F' (.slice N xs.length U) xs av ∧ OS F' (.slice O ys.length V) ys Z ∧ aH f [(2, (.slice none 0 0)), (3, (.slice none 0 0)), (4, (.slice aw A.length a1)), (5, (.slice a0 E.length a2)), (6, (.slice N xs.length U)), (7, (.slice O ys.length V)), (18, (iI (A.length : Int))), (19, (iI (k : Int)))] ∧ mm = c.blocks.length - k ∧ (xs.length = k) ∧ (ys.length = k) ∧ (k ≤ c.blocks.length) ∧ (∀ b, b < k → Lst (xs.getD b default) (LIn c b)) ∧ (∀ b, b < k → Lst (ys.getD b default) (LOut c b))) _ ⟨([] : List (List Int)), ([] : List (List Int)), 0, none, 0, [], none, 0, [], _, fR, c5, (OS.nil : OS dk (.slice none 0 0) ([] : List (List Int)) []), (OS.nil : OS dk (.slice none 0 0) ([] : List (List Int)) []), (agC rfl (agC rfl (agC rfl (agC rfl (agC rfl (agC rfl (agC rfl (agC rfl agN)))))))), rfl, (by rfl), (by rfl), (by first | assumption | omega | (simp at *; omega)), (by intro b hb; omega), (by intro b hb; omega)⟩ ?_
 rintro h6 i2 iv ⟨xs, ys, k, N, U, av, O, V, Z, h7, a8, a5, a4, T, em, rfl, e1, e2, e3, e4, e5⟩ hh
 refine aq _ em (fun _ => ?_)
 clear em
 replace hT := (hT.mono d1).mono a8
 replace a3 := a3.mono a8
 replace I := I.mono a8
 refine am 1 rfl ?_
 refine wR 2 [] 20 20 [] [(20, (.bool (decide ((k : Int) < (A.length : Int)))))] trivial rfl fun _ => ?_
 refine au 4 5 (v := (decide ((k : Int) < (A.length : Int)))) rfl rfl rfl rfl (fun ch => ?_) (fun ch => ?_)
 ·
  have ds := ch
  try simp only [BS] at ds
  refine wR 1 [] 21 21 [8] [(8, (iI (k : Int)))] trivial rfl fun _ => ?_
  refine bL rfl ?_
  refine fm (.slice N xs.length U) rfl rfl rfl ?_
  refine fm (.slice aw A.length a1) rfl rfl rfl ?_
  refine fm (iI (k : Int)) rfl rfl rfl ?_
  refine aO (v := (.pointer (some ⟨sB (.slice aw A.length a1), sO (.slice aw A.length a1) + k * Rp.sz (List U64), none⟩))) (id := .v) (cz (α := (List U64)) (j := (k : Int)) rfl rfl rfl rfl (SR.sv a3 a5.log0) (by omega) (by omega)) rfl rfl (dD rfl) (du _) ?_
  obtain ⟨hS, g9, g5⟩ := Sv.at (SR.sv a3 a5.log0) (aY (x := default) (show k < A.length from by omega))
  obtain ⟨fi, go, rfl, g1⟩ := g9
  refine aO (v := (.slice fi (A.getD k default).length go)) (id := .l (sB (.slice aw A.length a1))) (b8 (i := 0) rfl rfl g5 rfl rfl) rfl rfl (ey rfl) (⟨.inl rfl, ⟨.inl rfl, ⟨.inl rfl, ⟨.inr trivial, trivial⟩⟩⟩⟩) ?_
  refine eg (W := []) (aB rfl rfl rfl) rfl rfl rfl (mb.list_c ex (A.getD k default) (HS.call a5.log0) g1 hT (by first | (rw [an.wi k (by omega)]; have := wd_le vF.regs; omega) | (rw [an.wo k (by omega)]; have := wd_le vF.regs; omega))) (⟨.inl rfl, ⟨.inl rfl, ⟨.inl rfl, ⟨.inl rfl, ⟨.inr trivial, trivial⟩⟩⟩⟩⟩) ?_
  rintro _ hr ⟨b2, b9, jc, hC, h8, a9, ad, rfl, f8, rfl⟩
  refine ⟨Wr.did ad.log, fun hj f1 => ?_⟩
  replace ad := HS.back a5.log0 rfl ad
  replace ad := HS.lg ad a5 f1
  generalize ({ hr with log := hj } : Heap) = hG at ad ⊢
  have ad : HS _ _ _ [_, av, Z, hC] _ := ad
  obtain ⟨h9, bb, b6, ha, h2⟩ := OS.frz f8 ad (i := 3) rfl
  have b6 : HS _ _ _ [_, _, _, []] _ := b6
  replace hT := (hT.mono a9).mono bb
  replace I := (I.mono a9).mono bb
  replace a4 := (a4.mono a9).mono bb
  refine dC (id := .a) (bF (α := (List Int)) (ps := [(0, (.slice b2 (e7 (A.getD k default)).length b9))]) (cells := [(.slice b2 (e7 (A.getD k default)).length b9)]) ([e7 (A.getD k default)] : List (List Int)) b6.log0 rfl rfl rfl (by kernel_rfl) ⟨[(.slice b2 (e7 (A.getD k default)).length b9)], [], rfl, ⟨b2, b9, rfl, ha⟩, rfl⟩ rfl) rfl rfl (fun _ _ _ _ => did_a rfl rfl rfl) (⟨.inl rfl, ⟨.inl rfl, ⟨.inl rfl, ⟨.inl rfl, ⟨.inl rfl, ⟨.inr trivial, trivial⟩⟩⟩⟩⟩⟩) ?_
  rintro _ ht hD ⟨iz, ja, rfl, g7, ag, _⟩ hk f2
  replace ag := HS.lg ag b6 f2
  generalize ({ ht with log := hk } : Heap) = hH at ag ⊢
  have ag : HS _ _ _ [_, _, _, _, hD] _ := ag
  refine dC (id := .x (av.map Prod.fst)) (ca (α := (List Int)) (q := 1) a4 ag.log0 rfl rfl rfl (OS.sv g7 ag.log0 (i := 4) rfl) rfl rfl rfl rfl rfl rfl rfl (by first | omega | (simp only [List.length_append, List.length_cons, List.length_nil]; omega))) rfl rfl (by rintro _ _ e6 ⟨dl, ez, rfl, b5, _, hwr⟩; exact d3 rfl rfl (Wr.did hwr)) (⟨.inl rfl, ⟨.inl rfl, ⟨.inl rfl, ⟨.inl rfl, ⟨.inl rfl, ⟨.inl rfl, ⟨.inl rfl, trivial⟩⟩⟩⟩⟩⟩⟩) ?_
  rintro _ hu e6 ⟨dl, ez, rfl, b5, J, _⟩ hl f3
  replace J := HS.lg J ag f3
  generalize ({ hu with log := hl } : Heap) = hI at J ⊢
  have J : HS _ _ _ [_, e6, _, _, _] _ := J
  refine fm (.slice O ys.length V) rfl rfl rfl ?_
  refine fm (.slice a0 E.length a2) rfl rfl rfl ?_
  refine fm (iI (k : Int)) rfl rfl rfl ?_
  refine aO (v := (.pointer (some ⟨sB (.slice a0 E.length a2), sO (.slice a0 E.length a2) + k * Rp.sz (List U64), none⟩))) (id := .v) (cz (α := (List U64)) (j := (k : Int)) rfl rfl rfl rfl (SR.sv I J.log0) (by omega) (by omega)) rfl rfl (dD rfl) (du _) ?_
  obtain ⟨hV, he, g6⟩ := Sv.at (SR.sv I J.log0) (aY (x := default) (show k < E.length from by omega))
  obtain ⟨f0, g0, rfl, g2⟩ := he
  refine aO (v := (.slice f0 (E.getD k default).length g0)) (id := .l (sB (.slice a0 E.length a2))) (b8 (i := 0) rfl rfl g6 rfl rfl) rfl rfl (ey rfl) (⟨.inl rfl, ⟨.inl rfl, ⟨.inl rfl, ⟨.inr trivial, ⟨.inr (SR.nin I ag (i := 1) rfl (show k < E.length from by omega)), ⟨.inr trivial, ⟨.inr List.not_mem_nil, ⟨.inr trivial, ⟨.inr trivial, ⟨.inr trivial, ⟨.inr trivial, ⟨.inr trivial, trivial⟩⟩⟩⟩⟩⟩⟩⟩⟩⟩⟩⟩) ?_
  refine eg (W := []) (aB rfl rfl rfl) rfl rfl rfl (mb.list_c ex (E.getD k default) (HS.call J.log0) g2 hT (by first | (rw [an.wi k (by omega)]; have := wd_le vF.regs; omega) | (rw [an.wo k (by omega)]; have := wd_le vF.regs; omega))) (⟨.inl rfl, ⟨.inl rfl, ⟨.inl rfl, ⟨.inl rfl, ⟨.inr trivial, ⟨.inl rfl, ⟨.inl rfl, ⟨.inl rfl, ⟨.inl rfl, ⟨.inl rfl, ⟨.inl rfl, ⟨.inl rfl, ⟨.inl rfl, trivial⟩⟩⟩⟩⟩⟩⟩⟩⟩⟩⟩⟩⟩) ?_
  rintro _ hw ⟨b3, cc, jq, hE, ib, ci, al, rfl, f9, rfl⟩
  refine ⟨Wr.did al.log, fun hm f4 => ?_⟩
  replace al := HS.back J.log0 rfl al
  replace al := HS.lg al J f4
  generalize ({ hw with log := hm } : Heap) = hK at al ⊢
  have al : HS _ _ _ [_, _, _, _, _, hE] _ := al
  obtain ⟨ih, co, b7, hf, h3⟩ := OS.frz f9 al (i := 5) rfl
  have b7 : HS _ _ _ [_, _, _, _, _, []] _ := b7
  replace b5 := (b5.mono ci).mono co
  replace T := (((T.mono a9).mono bb).mono ci).mono co
  refine dC (id := .a) (bF (α := (List Int)) (ps := [(0, (.slice b3 (e7 (E.getD k default)).length cc))]) (cells := [(.slice b3 (e7 (E.getD k default)).length cc)]) ([e7 (E.getD k default)] : List (List Int)) b7.log0 rfl rfl rfl (by kernel_rfl) ⟨[(.slice b3 (e7 (E.getD k default)).length cc)], [], rfl, ⟨b3, cc, rfl, hf⟩, rfl⟩ rfl) rfl rfl (fun _ _ _ _ => did_a rfl rfl rfl) (⟨.inl rfl, ⟨.inl rfl, ⟨.inl rfl, ⟨.inl rfl, ⟨.inl rfl, ⟨.inr trivial, ⟨.inl rfl, ⟨.inl rfl, ⟨.inl rfl, ⟨.inl rfl, ⟨.inl rfl, ⟨.inl rfl, ⟨.inl rfl, ⟨.inl rfl, trivial⟩⟩⟩⟩⟩⟩⟩⟩⟩⟩⟩⟩⟩⟩) ?_
  rintro _ hz hF ⟨i1, jb, rfl, g8, ar, _⟩ hn f5
  replace ar := HS.lg ar b7 f5
  generalize ({ hz with log := hn } : Heap) = hQ at ar ⊢
  have ar : HS _ _ _ [_, _, _, _, _, _, hF] _ := ar
  refine dC (id := .x (Z.map Prod.fst)) (ca (α := (List Int)) (q := 2) T ar.log0 rfl rfl rfl (OS.sv g8 ar.log0 (i := 6) rfl) rfl rfl rfl rfl rfl rfl rfl (by first | omega | (simp only [List.length_append, List.length_cons, List.length_nil]; omega))) rfl rfl (by rintro _ _ fd ⟨dn, e0, rfl, es, _, hwr⟩; exact d3 rfl rfl (Wr.did hwr)) (⟨.inl rfl, ⟨.inl rfl, ⟨.inl rfl, ⟨.inl rfl, ⟨.inl rfl, ⟨.inl rfl, ⟨.inl rfl, ⟨.inl rfl, ⟨.inl rfl, ⟨.inl rfl, ⟨.inl rfl, ⟨.inl rfl, ⟨.inl rfl, ⟨.inl rfl, ⟨.inl rfl, trivial⟩⟩⟩⟩⟩⟩⟩⟩⟩⟩⟩⟩⟩⟩⟩) ?_
  rintro _ hA fd ⟨dn, e0, rfl, es, a6, _⟩ hp f6
  replace a6 := HS.lg a6 ar f6
  generalize ({ hA with log := hp } : Heap) = hR at a6 ⊢
  have a6 : HS _ _ _ [_, _, fd, _, _, _, _] _ := a6
  refine fa (.slice dl (xs ++ ([e7 (A.getD k default)] : List (List Int))).length ez) rfl rfl rfl ?_
  refine fa (.slice dn (ys ++ ([e7 (E.getD k default)] : List (List Int))).length e0) rfl rfl rfl ?_
  refine d8 ?_
  refine am 2 rfl ?_
  refine wR 1 [] 19 19 [38] [(19, (iI ((k : Int) + 1)))] (vA (vi (n := (k : Int) + 1) (by omega)) trivial) rfl fun _ => ?_
  refine hh _ _ _ ?_ ⟨xs ++ ([e7 (A.getD k default)] : List (List Int)), ys ++ ([e7 (E.getD k default)] : List (List Int)), k + 1, dl, ez, e6, dn, e0, fd, _, (fT (fT (fT (fT (a8) a9) bb) ci) co), (HS.sub a6 (List.sublist_append_left _ _)), b5, es, (agC rfl (agC rfl (agC rfl (agC rfl (agC rfl (agC rfl (agC rfl (agC rfl agN)))))))), rfl, (by simp; omega), (by simp; omega), (by first | assumption | omega | (simp at *; omega)), (by exact lst_snoc e1 e4 (lst_of (an.hi k))), (by exact lst_snoc e2 e5 (lst_of (an.ho k (by omega))))⟩
  omega
 have ds := ch
 try simp only [BS] at ds
 refine wR 1 [] 2 3 [39, 40] [(2, (.slice N xs.length U)), (3, (.slice O ys.length V))] trivial rfl fun _ => ?_
 obtain ⟨ik, d2, c6, c0, h4⟩ := OS.frz a4 a5 (i := 1) rfl
 have c6 : HS _ _ _ [_, _, Z] _ := c6
 replace T := T.mono d2
 obtain ⟨il, ea, c8, hg, h5⟩ := OS.frz T c6 (i := 2) rfl
 have c8 : HS _ _ _ [_, _, []] _ := c8
 replace c0 := c0.mono ea
 refine az ⟨.inr rfl, _, rfl, N, U, xs, O, V, ys, _, (fT (fT (fT (fT (c9) d1) a8) d2) ea), (HS.forget c8), rfl, c0, hg, (by first | exact fun h => absurd (h.symm.trans hv) (by decide) | exact fun _ => ⟨by omega, by omega, fun b hb => e4 b (by omega), fun b hb => e5 b (by omega)⟩), (by first | exact fun _ => ⟨rfl, rfl⟩ | exact fun h => absurd (hv.symm.trans h) (by decide))⟩
end Go.Proofs.YtknafdcgpaejlaaDoor.md
