/-
 Live registers: Blocks, Points and AcrossCalls, by symbolic runs. No condition but bounds on lengths.
-/
import Derived.Test.YtknafdcgpaejlaaDoorZGMC
noncomputable section
namespace Go.Proofs.YtknafdcgpaejlaaDoor.md
open Go.R
set_option maxRecDepth 10000
set_option linter.unusedVariables false
set_option linter.unusedSimpArgs false
variable (ex : FuncId) {F : Fz} {H : Heap} {R : List Fp}
open m1 m2 m3 m4 m5 m6 ma ml mb mc
structure Lst (l : List Int) (S : Nat → Prop) : Prop where
 asc : Asc l
 mem : ∀ x, x ∈ l ↔ 0 ≤ x ∧ S x.toNat
theorem asc_ext : ∀ {l m : List Int}, Asc l → Asc m → (∀ x, x ∈ l ↔ x ∈ m) → l = m
 | [], [], _, _, _ => rfl
 | [], y :: m, _, _, h => absurd ((h y).2 (a0A ..)) a0f
 | x :: l, [], _, _, h => absurd ((h x).1 (a0A ..)) a0f
 | x :: l, y :: m, hl, hm, h => by
  replace hl := a1u.1 hl
  replace hm := a1u.1 hm
  have hxy : x = y := by
   rcases a0r.1 ((h x).1 (a0A ..)) with e | e
   ·
    exact e
   rcases a0r.1 ((h y).2 (a0A ..)) with A | A
   ·
    exact A.symm
   have := hl.1 y A; have := hm.1 x e; omega
  subst hxy
  congr 1
  refine asc_ext hl.2 hm.2 fun z => ?_
  constructor
  ·
   intro hz
   rcases a0r.1 ((h z).1 (a0j _ hz)) with e | e
   ·
    subst e; have := hl.1 z hz; omega
   exact e
  intro hz
  rcases a0r.1 ((h z).2 (a0j _ hz)) with e | e
  ·
   subst e; have := hm.1 z hz; omega
  exact e
theorem Lst.uniq {l m : List Int} {S S' : Nat → Prop} (h : Lst l S) (k : Lst m S') (hs : ∀ r, S r ↔ S' r) : l = m := asc_ext h.asc k.asc fun x => by rw [h.mem, k.mem, hs]
theorem lst_of {s : List U64} {S : Nat → Prop} (h : ∀ r, aF s r = true ↔ S r) : Lst (gj s) S := ⟨lst_asc, fun x => by rw [lst_mem, h]⟩
structure BkF (c : VFnT) (x y : List (List Int)) : Prop where
 lx : x.length = c.blocks.length
 ly : y.length = c.blocks.length
 hx : ∀ b, b < c.blocks.length → Lst (x.getD b default) (LIn c b)
 hy : ∀ b, b < c.blocks.length → Lst (y.getD b default) (LOut c b)
def ptS (c : VFnT) (b i : Nat) : Nat → Prop := tr ((bQ c b).ins.drop i) (endS (bQ c b) (LOut c b))
structure PtF (c : VFnT) (b : Nat) (l : List (List Int)) : Prop where
 len : l.length = (bQ c b).ins.length + 1
 pt : ∀ i, i ≤ (bQ c b).ins.length → Lst (l.getD i default) (ptS c b i)
def acI (c : VFnT) (b i r : Nat) : Prop := ((bQ c b).ins.getD i default).i.op = 6 ∧ ((ptS c b (i + 1) r ∧ (r : Int) ≠ ((bQ c b).ins.getD i default).i.a) ∨ (r : Int) ∈ ((bQ c b).ins.getD i default).args)
def acS (c : VFnT) (r : Nat) : Prop := ∃ b i, b < c.blocks.length ∧ i < (bQ c b).ins.length ∧ acI c b i r
theorem at_snoc {α : Type} {d : α} {l : List α} {x : α} {j : Nat} : (l ++ [x]).getD j d = if j = l.length then x else l.getD j d := by
 rw [a01, a01, a1A]
 by_cases h : j < l.length
 ·
  rw [if_pos h, if_neg (by omega)]
 rw [if_neg h]
 by_cases z : j = l.length
 ·
  subst z; rw [if_pos rfl, a1G]; rfl
 rw [if_neg z, a0C (by simp; omega), a0C (by omega)]
theorem lst_snoc {l : List (List Int)} {S : Nat → Nat → Prop} {k : Nat} {x : List Int} (hl : l.length = k) (h : ∀ b, b < k → Lst (l.getD b default) (S b)) (hx : Lst x (S k)) : ∀ b, b < k + 1 → Lst ((l ++ [x]).getD b default) (S b) := fun b hb => by
 rw [at_snoc]
 split
 ·
  rename_i e; rw [hl] at e; subst e; exact hx
 exact h b (by omega)
set_option maxHeartbeats 1000000 in
theorem blocks_c {a8 : Option Addr} {bl : Nat} (c : VFnT) (hs : HS (.of H []) F H [] R) (hR : in64 c.params) (hS : in64 c.regs) (b3 : SR F (.slice a8 c.blocks.length bl) c.blocks) (hT : TB 37 tabC F) (hins : ∀ j, (c.blocks.getD j default).ins.length ≤ 1073741824) : kKt ex 71 [(.agg ⟨[(iI c.params), (iI c.regs), (.slice a8 c.blocks.length bl)]⟩)] H fun v H' => ∃ (ax : Option Addr) (kx : Nat) (x : List (List Int)) (ay : Option Addr) (ky : Nat) (y : List (List Int)) (F' : Fz), Fz.le F F' ∧ HS (.of H []) F' H' [] R ∧ v = .tuple ⟨[.slice ax x.length kx, .slice ay y.length ky]⟩ ∧ SR F' (.slice ax x.length kx) x ∧ SR F' (.slice ay y.length ky) y ∧ (cx c = true → BkF c x y) ∧ (cx c = false → x = [] ∧ y = []) := by
 refine aI Tryd.func71 rfl rfl (ah 1 rfl (aa (aH (bw hs rfl rfl) rfl rfl ?_)))
 rintro _ H2 _ ⟨b1, rfl, (d4 : HS _ _ _ [[(b1, .cells [(iI c.params), (iI c.regs), (.slice a8 c.blocks.length bl)] none false)]] _), _⟩
 let c9 : Value := (.agg ⟨[(iI c.params), (iI c.regs), (.slice a8 c.blocks.length bl)]⟩)
 refine wTo 2 1 [] 2 3 [] [(2, (.slice none 0 0)), (3, (.slice none 0 0))] rfl fun _ => ae 3 rfl (aa (wUo 1 0 [(0, .o c9)] 9 9 [] [(9, c9)] (qn 24 0 3 (HS.hc d4 (i := 0) rfl) rfl rfl rfl rfl) rfl fun _ => az (ap rfl rfl rfl) rfl rfl (m3.valid_c ex c (HS.call d4) (by omega) (by omega) b3 hT (fun j => a0b (hins j) (by omega))) ?_))
 rintro _ H5 ⟨r5, F5, c8, bz, rfl, rfl⟩
 replace bz : HS _ _ _ [_] _ := HS.back d4 rfl bz
 replace hT := hT.mono c8
 replace b3 := b3.mono c8
 refine wTo 1 2 [] 11 11 [] [(11, (.bool (!(cx c))))] rfl fun _ => ae 1 rfl (am 1 2 (v := (!(cx c))) rfl rfl rfl rfl (fun ds => ?_) (fun ds => ?_))
 ·
  have c7 := ds
  try simp only [BS] at c7
  have hv := c7
  refine wT 1 [] 2 3 [] [(2, (.slice none 0 0)), (3, (.slice none 0 0))] rfl fun _ => ak ⟨.inr rfl, _, rfl, none, 0, ([] : List (List Int)), none, 0, ([] : List (List Int)), _, (c8), (HS.forget bz), rfl, (SR.nil : SR F5 (.slice none 0 0) ([] : List (List Int))), (SR.nil : SR F5 (.slice none 0 0) ([] : List (List Int))), (fun h => absurd (h.symm.trans hv) (by decide)), (fun _ => ⟨rfl, rfl⟩)⟩
 have c7 := ds
 try simp only [BS] at c7
 have hv := c7
 have vF := iA hv
 have hnb := vF.nb
 refine aa (wUo 1 0 [(0, .o c9)] 13 13 [] [(13, c9)] (qn 24 0 3 (HS.hc bz (i := 0) rfl) rfl rfl rfl rfl) rfl fun _ => az (ap rfl rfl rfl) rfl rfl (mc.analyze_c ex c (HS.call bz) (by omega) (by omega) b3 hT (by assumption) (fun j => a0b (hins j) (by omega))) ?_)
 rintro _ h9 ⟨a0, a2, z, a1, a3, A, hh, dt, c0, rfl, a4, E, il⟩
 replace c0 : HS _ _ _ [_] _ := HS.back bz rfl c0
 refine wTo 5 2 [] 15 16 [4, 5, 12] [(4, (.slice a0 z.length a2)), (5, (.slice a1 A.length a3))] rfl fun _ => ae 2 rfl ?_
 have an := (by assumption : AnF c _ _)
 have hli := an.li
 have hlo := an.lo
 refine wT 3 [] 1 0 [6, 7] [(6, (.slice none 0 0)), (7, (.slice none 0 0))] rfl fun _ => wT 2 [] 17 19 [] [(18, (iI (z.length : Int))), (19, (iI 0))] rfl fun _ => ?_
 have c3 := HS.snoc c0
 have c3 : HS _ _ _ [_, []] _ := c3
 have c4 := HS.snoc c3
 have c4 : HS _ _ _ [_, _, []] _ := c4
 refine aj (fun (mm : Nat) f H' => ∃ (xs : List (List Int)) (ys : List (List Int)) (k : Nat) (N : Option Addr) (V : Nat) (av : Fp) (T : Option Addr) (Y : Nat) (Z : Fp) (F' : Fz), Fz.le hh F' ∧ HS (Base.of H []) F' H' [[(b1, .cells [(iI c.params), (iI c.regs), (.slice a8 c.blocks.length bl)] none false)], av, Z] R ∧ OS F' (.slice N xs.length V) xs av ∧ OS F' (.slice T ys.length Y) ys Z ∧ aD f [(4, (.slice a0 z.length a2)), (5, (.slice a1 A.length a3)), (6, (.slice N xs.length V)), (7, (.slice T ys.length Y)), (18, (iI (z.length : Int))), (19, (iI (k : Int)))] ∧ mm = c.blocks.length - k ∧ (xs.length = k) ∧ (ys.length = k) ∧ (k ≤ c.blocks.length) ∧ (∀ b, b < k → Lst (xs.getD b default) (LIn c b)) ∧ (∀ b, b < k → Lst (ys.getD b default) (LOut c b))) _ ⟨([] : List (List Int)), ([] : List (List Int)), 0, none, 0, [], none, 0, [], _, fR, c4, (OS.nil : OS _ (.slice none 0 0) ([] : List (List Int)) []), (OS.nil : OS _ (.slice none 0 0) ([] : List (List Int)) []), ⟨rfl, rfl, rfl, rfl, rfl, rfl, trivial⟩, rfl, (by rfl), (by rfl), (by omega), (by intro b hb; omega), (by intro b hb; omega)⟩ ?_
 rintro h1 ik ib ⟨xs, ys, k, N, V, av, T, Y, Z, h2, a9, a6, a5, U, d2, rfl, e1, e2, e3, e4, e5⟩ g7
 refine au _ d2 (fun _ => ?_)
 clear d2
 replace hT := (hT.mono dt).mono a9
 replace a4 := a4.mono a9
 replace E := E.mono a9
 refine ah 1 rfl (wT 2 [] 20 20 [] [(20, (.bool (decide ((k : Int) < (z.length : Int)))))] rfl fun _ => am 4 5 (v := (decide ((k : Int) < (z.length : Int)))) rfl rfl rfl rfl (fun ch => ?_) (fun ch => ?_))
 ·
  have dl := ch
  try simp only [BS] at dl
  refine wT 1 [] 21 21 [8] [(8, (iI (k : Int)))] rfl fun _ => aY rfl (fm (.slice N xs.length V) rfl rfl rfl (fm (.slice a0 z.length a2) rfl rfl rfl (fm (iI (k : Int)) rfl rfl rfl (wfv (v := (.pointer (some ⟨sB (.slice a0 z.length a2), sO (.slice a0 z.length a2) + k * Rp.sz (List U64), none⟩))) (bd (α := (List U64)) (j := (k : Int)) rfl rfl rfl rfl (SR.sv a4 a6.log0) (by omega) (by omega)) ?_))))
  obtain ⟨hI, g2, f9⟩ := Sv.at (SR.sv a4 a6.log0) (aK (x := default) (show k < z.length from by omega))
  obtain ⟨ez, f5, rfl, f7⟩ := g2
  refine aB (v := (.slice ez (z.getD k default).length f5)) (id := .l (sB (.slice a0 z.length a2))) (bt (i := 0) rfl rfl f9 rfl rfl) rfl rfl (bG rfl) (kb rfl) (bj (W := []) (ap rfl rfl rfl) rfl rfl rfl (mb.list_c ex (z.getD k default) (HS.call a6.log0) f7 hT (by (rw [an.wi k (by omega)]; have := wd_le vF.regs; omega))) (kb rfl) ?_)
  rintro _ hk ⟨b0, b9, iz, hw, h3, bb, ad, rfl, f3, rfl⟩
  refine ⟨Wr.did ad.log, fun g8 e6 => ?_⟩
  replace ad := HS.back a6.log0 rfl ad
  replace ad := HS.lg ad a6 e6
  generalize ({ hk with log := g8 } : Heap) = hC at ad ⊢
  have ad : HS _ _ _ [_, av, Z, hw] _ := ad
  obtain ⟨h4, bk, b6, g3, hV⟩ := OS.frz f3 ad (i := 3) rfl
  have b6 : HS _ _ _ [_, _, _, []] _ := b6
  replace hT := (hT.mono bb).mono bk
  replace E := (E.mono bb).mono bk
  replace a5 := (a5.mono bb).mono bk
  refine cg (id := .a) (bu (α := (List Int)) (ps := [(0, (.slice b0 (gj (z.getD k default)).length b9))]) (cells := [(.slice b0 (gj (z.getD k default)).length b9)]) ([gj (z.getD k default)] : List (List Int)) b6.log0 rfl rfl rfl (by kernel_rfl) ⟨[(.slice b0 (gj (z.getD k default)).length b9)], [], rfl, ⟨b0, b9, rfl, g3⟩, rfl⟩ rfl) rfl rfl (fun _ _ _ _ => km rfl rfl rfl) (kb rfl) ?_
  rintro _ hl hz ⟨ih, it, rfl, g0, ag, _⟩ g9 fd
  replace ag := HS.lg ag b6 fd
  generalize ({ hl with log := g9 } : Heap) = hD at ag ⊢
  have ag : HS _ _ _ [_, _, _, _, hz] _ := ag
  refine cg (id := .x (av.map Prod.fst)) (bC (α := (List Int)) (q := 1) a5 ag.log0 rfl rfl rfl (OS.sv g0 ag.log0 (i := 4) rfl) rfl rfl rfl rfl rfl rfl rfl (by (simp only [a06, a0a, a0g]; omega))) rfl rfl (by rintro _ _ es ⟨dd, ea, rfl, b4, _, hwr⟩; exact cz rfl rfl (Wr.did hwr)) (kb rfl) ?_
  rintro _ hm es ⟨dd, ea, rfl, b4, J, _⟩ ha fi
  replace J := HS.lg J ag fi
  generalize ({ hm with log := ha } : Heap) = hE at J ⊢
  have J : HS _ _ _ [_, es, _, _, _] _ := J
  refine fm (.slice T ys.length Y) rfl rfl rfl (fm (.slice a1 A.length a3) rfl rfl rfl (fm (iI (k : Int)) rfl rfl rfl (wfv (v := (.pointer (some ⟨sB (.slice a1 A.length a3), sO (.slice a1 A.length a3) + k * Rp.sz (List U64), none⟩))) (bd (α := (List U64)) (j := (k : Int)) rfl rfl rfl rfl (SR.sv E J.log0) (by omega) (by omega)) ?_)))
  obtain ⟨hK, g4, go⟩ := Sv.at (SR.sv E J.log0) (aK (x := default) (show k < A.length from by omega))
  obtain ⟨e0, f6, rfl, f8⟩ := g4
  refine aB (v := (.slice e0 (A.getD k default).length f6)) (id := .l (sB (.slice a1 A.length a3))) (bt (i := 0) rfl rfl go rfl rfl) rfl rfl (bG rfl) (⟨.inl rfl, ⟨.inl rfl, ⟨.inl rfl, ⟨.inr trivial, ⟨.inr (SR.nin E ag (i := 1) rfl (show k < A.length from by omega)), ⟨.inr trivial, ⟨.inr a0f, ⟨.inr trivial, ⟨.inr trivial, ⟨.inr trivial, ⟨.inr trivial, ⟨.inr trivial, trivial⟩⟩⟩⟩⟩⟩⟩⟩⟩⟩⟩⟩) (bj (W := []) (ap rfl rfl rfl) rfl rfl rfl (mb.list_c ex (A.getD k default) (HS.call J.log0) f8 hT (by (rw [an.wo k (by omega)]; have := wd_le vF.regs; omega))) (kb rfl) ?_)
  rintro _ hn ⟨b2, cc, i1, hA, h5, ci, al, rfl, f4, rfl⟩
  refine ⟨Wr.did al.log, fun he f0 => ?_⟩
  replace al := HS.back J.log0 rfl al
  replace al := HS.lg al J f0
  generalize ({ hn with log := he } : Heap) = hF at al ⊢
  have al : HS _ _ _ [_, _, _, _, _, hA] _ := al
  obtain ⟨h6, cl, b7, g5, hW⟩ := OS.frz f4 al (i := 5) rfl
  have b7 : HS _ _ _ [_, _, _, _, _, []] _ := b7
  replace b4 := (b4.mono ci).mono cl
  replace U := (((U.mono bb).mono bk).mono ci).mono cl
  refine cg (id := .a) (bu (α := (List Int)) (ps := [(0, (.slice b2 (gj (A.getD k default)).length cc))]) (cells := [(.slice b2 (gj (A.getD k default)).length cc)]) ([gj (A.getD k default)] : List (List Int)) b7.log0 rfl rfl rfl (by kernel_rfl) ⟨[(.slice b2 (gj (A.getD k default)).length cc)], [], rfl, ⟨b2, cc, rfl, g5⟩, rfl⟩ rfl) rfl rfl (fun _ _ _ _ => km rfl rfl rfl) (kb rfl) ?_
  rintro _ hp hB ⟨ii, iv, rfl, g1, ar, _⟩ hf f1
  replace ar := HS.lg ar b7 f1
  generalize ({ hp with log := hf } : Heap) = hG at ar ⊢
  have ar : HS _ _ _ [_, _, _, _, _, _, hB] _ := ar
  refine cg (id := .x (Z.map Prod.fst)) (bC (α := (List Int)) (q := 2) U ar.log0 rfl rfl rfl (OS.sv g1 ar.log0 (i := 6) rfl) rfl rfl rfl rfl rfl rfl rfl (by (simp only [a06, a0a, a0g]; omega))) rfl rfl (by rintro _ _ et ⟨dk, em, rfl, d3, _, hwr⟩; exact cz rfl rfl (Wr.did hwr)) (kb rfl) ?_
  rintro _ hq et ⟨dk, em, rfl, d3, a7, _⟩ hg f2
  replace a7 := HS.lg a7 ar f2
  generalize ({ hq with log := hg } : Heap) = hH at a7 ⊢
  have a7 : HS _ _ _ [_, _, et, _, _, _, _] _ := a7
  refine fa (.slice dd (xs ++ ([gj (z.getD k default)] : List (List Int))).length ea) rfl rfl rfl (fa (.slice dk (ys ++ ([gj (A.getD k default)] : List (List Int))).length em) rfl rfl rfl (cu (ah 2 rfl (wU 1 [] 19 19 [38] [(19, (iI ((k : Int) + 1)))] (vi (n := (k : Int) + 1) (by omega)) rfl fun _ => g7 _ _ _ ?_ ⟨xs ++ ([gj (z.getD k default)] : List (List Int)), ys ++ ([gj (A.getD k default)] : List (List Int)), k + 1, dd, ea, es, dk, em, et, _, (fT (fT (fT (fT (a9) bb) bk) ci) cl), (HS.sub a7 (a05 _ _)), b4, d3, ⟨rfl, rfl, rfl, rfl, rfl, rfl, trivial⟩, rfl, (by simp; omega), (by simp; omega), (by omega), (lst_snoc e1 e4 (lst_of (an.hi k))), (lst_snoc e2 e5 (lst_of (an.ho k (by omega))))⟩))))
  omega
 have dl := ch
 try simp only [BS] at dl
 refine wT 1 [] 2 3 [39, 40] [(2, (.slice N xs.length V)), (3, (.slice T ys.length Y))] rfl fun _ => ?_
 obtain ⟨h7, dv, c5, co, hX⟩ := OS.frz a5 a6 (i := 1) rfl
 have c5 : HS _ _ _ [_, _, Z] _ := c5
 replace U := U.mono dv
 obtain ⟨h8, d1, c6, g6, hY⟩ := OS.frz U c5 (i := 2) rfl
 have c6 : HS _ _ _ [_, _, []] _ := c6
 replace co := co.mono d1
 refine ak ⟨.inr rfl, _, rfl, N, V, xs, T, Y, ys, _, (fT (fT (fT (fT (c8) dt) a9) dv) d1), (HS.forget c6), rfl, co, g6, (fun _ => ⟨by omega, by omega, fun b hb => e4 b (by omega), fun b hb => e5 b (by omega)⟩), (fun h => absurd (hv.symm.trans h) (by decide))⟩
end Go.Proofs.YtknafdcgpaejlaaDoor.md
