/-
 Live registers: Blocks, Points and AcrossCalls, each by a symbolic run. No condition but bounds on lengths.
-/
import Derived.Test.YtlabedbmgmfbaaaDoorZCMC
noncomputable section
namespace Go.Proofs.YtlabedbmgmfbaaaDoor.md
open Go.R
set_option maxRecDepth 10000
set_option linter.unusedVariables false
open m1 m2 m3 m4 m5 m6 ma ml mb mc
structure Lst (l : List Int) (S : Nat → Prop) : Prop where
 asc : Asc l
 mem : ∀ x, x ∈ l ↔ 0 ≤ x ∧ S x.toNat
theorem asc_ext : ∀ {l m : List Int}, Asc l → Asc m → (∀ x, x ∈ l ↔ x ∈ m) → l = m
 | [], [], _, _, _ => rfl
 | [], y :: m, _, _, h => absurd ((h y).2 (List.mem_cons_self ..)) List.not_mem_nil
 | x :: l, [], _, _, h => absurd ((h x).1 (List.mem_cons_self ..)) List.not_mem_nil
 | x :: l, y :: m, hl, hm, h => by
  replace hl := List.pairwise_cons.1 hl
  replace hm := List.pairwise_cons.1 hm
  have hxy : x = y := by
   rcases List.mem_cons.1 ((h x).1 (List.mem_cons_self ..)) with e | e
   ·
    exact e
   ·
    rcases List.mem_cons.1 ((h y).2 (List.mem_cons_self ..)) with A | A
    ·
     exact A.symm
    ·
     have := hl.1 y A; have := hm.1 x e; omega
  subst hxy
  congr 1
  refine asc_ext hl.2 hm.2 fun z => ?_
  constructor
  ·
   intro hz
   rcases List.mem_cons.1 ((h z).1 (List.mem_cons_of_mem _ hz)) with e | e
   ·
    subst e; have := hl.1 z hz; omega
   ·
    exact e
  ·
   intro hz
   rcases List.mem_cons.1 ((h z).2 (List.mem_cons_of_mem _ hz)) with e | e
   ·
    subst e; have := hm.1 z hz; omega
   ·
    exact e
theorem Lst.uniq {l m : List Int} {S S' : Nat → Prop} (h : Lst l S) (k : Lst m S') (hs : ∀ r, S r ↔ S' r) : l = m := asc_ext h.asc k.asc fun x => by rw [h.mem, k.mem, hs]
theorem lst_of {s : List U64} {S : Nat → Prop} (h : ∀ r, aq s r = true ↔ S r) : Lst (eO s) S := ⟨lst_asc, fun x => by rw [lst_mem, h]⟩
structure BkF (c : VFnT) (x y : List (List Int)) : Prop where
 lx : x.length = c.blocks.length
 ly : y.length = c.blocks.length
 hx : ∀ b, b < c.blocks.length → Lst (x.getD b default) (LIn c b)
 hy : ∀ b, b < c.blocks.length → Lst (y.getD b default) (LOut c b)
def ptS (c : VFnT) (b i : Nat) : Nat → Prop := tr ((cC c b).ins.drop i) (endS (cC c b) (LOut c b))
structure PtF (c : VFnT) (b : Nat) (l : List (List Int)) : Prop where
 len : l.length = (cC c b).ins.length + 1
 pt : ∀ i, i ≤ (cC c b).ins.length → Lst (l.getD i default) (ptS c b i)
def acI (c : VFnT) (b i r : Nat) : Prop := ((cC c b).ins.getD i default).i.op = 6 ∧ ((ptS c b (i + 1) r ∧ (r : Int) ≠ ((cC c b).ins.getD i default).i.a) ∨ (r : Int) ∈ ((cC c b).ins.getD i default).args)
def acS (c : VFnT) (r : Nat) : Prop := ∃ b i, b < c.blocks.length ∧ i < (cC c b).ins.length ∧ acI c b i r
theorem at_snoc {α : Type} {d : α} {l : List α} {x : α} {j : Nat} : (l ++ [x]).getD j d = if j = l.length then x else l.getD j d := by
 rw [List.getD_eq_getElem?_getD, List.getD_eq_getElem?_getD, List.getElem?_append]
 by_cases h : j < l.length
 ·
  rw [if_pos h, if_neg (by omega)]
 ·
  rw [if_neg h]
  by_cases z : j = l.length
  ·
   subst z; rw [if_pos rfl, Nat.sub_self]; rfl
  ·
   rw [if_neg z, List.getElem?_eq_none (by simp; omega), List.getElem?_eq_none (by omega)]
theorem lst_snoc {l : List (List Int)} {S : Nat → Nat → Prop} {k : Nat} {x : List Int} (hl : l.length = k) (h : ∀ b, b < k → Lst (l.getD b default) (S b)) (hx : Lst x (S k)) : ∀ b, b < k + 1 → Lst ((l ++ [x]).getD b default) (S b) := fun b hb => by
 rw [at_snoc]
 split
 ·
  rename_i e; rw [hl] at e; subst e; exact hx
 ·
  exact h b (by omega)
theorem kJ {c : VFnT} {b n : Nat} {s z : List U64} (hn : (cC c b).ins.length ≤ n) (hs : ∀ r, aq s r = true ↔ LOut c b r) (h : ∀ i, aq z i = (aq s i || decide ((i : Int) ∈ kQ (cC c b)))) (r : Nat) : aq z r = true ↔ ptS c b n r := tr_start hn hs h r
theorem set_pt {c : VFnT} {b i : Nat} {l : List (List Int)} {x : List Int} (hl : l.length = (cC c b).ins.length + 1) (h : ∀ j, i < j → j ≤ (cC c b).ins.length → Lst (l.getD j default) (ptS c b j)) (hi : i ≤ (cC c b).ins.length) (hx : Lst x (ptS c b i)) : ∀ j, i ≤ j → j ≤ (cC c b).ins.length → Lst ((l.set i x).getD j default) (ptS c b j) := fun j A z => by
 rw [eM]
 split
 ·
  rename_i e; obtain ⟨rfl, _⟩ := e; exact hx
 ·
  rename_i e; exact h j (by omega) z
set_option maxHeartbeats 1000000 in
theorem blocks_c (ex : FuncId) {bz : Option Addr} {b7 : Nat} (c : VFnT) {F : Fz} {H : Heap} {R : List Fp} (hs : HS (.of H []) F H [] R) (hQ : in64 c.params) (hR : in64 c.regs) (b3 : SR F (.slice bz c.blocks.length b7) c.blocks) (hT : TB 37 tabC F) (hins : ∀ j, (c.blocks.getD j default).ins.length ≤ 1073741824) : C Tryd.prog 1 (KT 60 ex 37 tabC) 19 [(.agg ⟨[(iI c.params), (iI c.regs), (.slice bz c.blocks.length b7)]⟩)] H fun v H' => ∃ (ax : Option Addr) (kx : Nat) (x : List (List Int)) (ay : Option Addr) (ky : Nat) (y : List (List Int)) (F' : Fz), Fz.le F F' ∧ HS (.of H []) F' H' [] R ∧ v = .tuple ⟨[.slice ax x.length kx, .slice ay y.length ky]⟩ ∧ SR F' (.slice ax x.length kx) x ∧ SR F' (.slice ay y.length ky) y ∧ (b8 c = true → BkF c x y) ∧ (b8 c = false → x = [] ∧ y = []) := by
 refine aG Tryd.func19 rfl rfl ?_
 refine aj 1 rfl ?_
 refine aa ?_
 refine aF (bB hs rfl rfl) rfl rfl ?_
 rintro _ H2 _ ⟨b1, rfl, ch, _⟩
 let f7 : Fp := [(b1, .cells [(iI c.params), (iI c.regs), (.slice bz c.blocks.length b7)] none false)]
 have ch : HS _ _ _ [f7] _ := ch
 refine wRo 2 1 [] 2 3 [] [(2, (.slice none 0 0)), (3, (.slice none 0 0))] trivial rfl fun _ => ?_
 refine ae 3 rfl ?_
 refine aa ?_
 let c8 : Value := (.agg ⟨[(iI c.params), (iI c.regs), (.slice bz c.blocks.length b7)]⟩)
 refine wRo 1 0 [(0, .o c8)] 9 9 [] [(9, c8)] (vA (qn 24 0 3 (HS.hc ch (i := 0) rfl) rfl rfl rfl rfl) trivial) rfl fun _ => ?_
 refine aA (ah rfl rfl rfl) rfl rfl (m3.valid_c ex c (HS.call ch) (by omega) (by omega) b3 hT (by exact fun j => Nat.le_trans (hins j) (by omega))) ?_
 rintro _ H5 ⟨r5, F5, c6, a8, rfl, rfl⟩
 replace a8 := HS.back ch rfl a8
 have a8 : HS _ _ _ [_] _ := a8
 replace hT := hT.mono c6
 replace b3 := b3.mono c6
 refine wRo 1 2 [] 11 11 [] [(11, (.bool (!(b8 c))))] trivial rfl fun _ => ?_
 refine ae 1 rfl ?_
 refine ak 1 2 (v := (!(b8 c))) rfl rfl rfl rfl (fun c7 => ?_) (fun c7 => ?_)
 ·
  try simp only [BS] at c7
  have hv := c7
  refine wR 1 [] 2 3 [] [(2, (.slice none 0 0)), (3, (.slice none 0 0))] trivial rfl fun _ => ?_
  refine ag ⟨.inr rfl, _, rfl, none, 0, ([] : List (List Int)), none, 0, ([] : List (List Int)), _, (c6), (HS.forget a8), rfl, (SR.nil : SR F5 (.slice none 0 0) ([] : List (List Int))), (SR.nil : SR F5 (.slice none 0 0) ([] : List (List Int))), (by first | exact fun h => absurd (h.symm.trans hv) (by decide) | exact fun _ => ⟨by omega, by omega, fun b hb => e4 b (by omega), fun b hb => e5 b (by omega)⟩), (by first | exact fun _ => ⟨rfl, rfl⟩ | exact fun h => absurd (hv.symm.trans h) (by decide))⟩
 ·
  try simp only [BS] at c7
  have hv := c7
  have vF := jF hv
  have hnb := vF.nb
  refine aa ?_
  refine wRo 1 0 [(0, .o c8)] 13 13 [] [(13, c8)] (vA (qn 24 0 3 (HS.hc a8 (i := 0) rfl) rfl rfl rfl rfl) trivial) rfl fun _ => ?_
  refine aA (ah rfl rfl rfl) rfl rfl (mc.jC ex c (HS.call a8) (by omega) (by omega) b3 hT (by first | assumption | exact fun j => Nat.le_trans (hins j) (by omega)) (by first | assumption | exact fun j => Nat.le_trans (hins j) (by omega))) ?_
  rintro _ h8 ⟨a0, a2, z, a1, a3, A, c9, ds, bl, rfl, a4, E, ik⟩
  replace bl := HS.back a8 rfl bl
  have bl : HS _ _ _ [_] _ := bl
  refine wRo 5 2 [] 15 16 [4, 5, 12] [(4, (.slice a0 z.length a2)), (5, (.slice a1 A.length a3))] trivial rfl fun _ => ?_
  refine ae 2 rfl ?_
  have an := (by assumption : AnF c _ _)
  have hli := an.li
  have hlo := an.lo
  refine wR 3 [] 1 0 [6, 7] [(6, (.slice none 0 0)), (7, (.slice none 0 0))] trivial rfl fun _ => ?_
  refine wR 2 [] 17 19 [] [(18, (iI (z.length : Int))), (19, (iI 0))] trivial rfl fun _ => ?_
  have c0 := HS.snoc bl
  have c0 : HS _ _ _ [_, []] _ := c0
  have c3 := HS.snoc c0
  have c3 : HS _ _ _ [_, _, []] _ := c3
  refine ap (fun (mm : Nat) f H' => ∃ (xs : List (List Int)) (ys : List (List Int)) (k : Nat) (N : Option Addr) (V : Nat) (aw : Fp) (T : Option Addr) (Y : Nat) (Z : Fp) (F' : Fz), Fz.le c9 F' ∧ HS (Base.of H []) F' H' [f7, aw, Z] R ∧ OS F' (.slice N xs.length V) xs aw ∧ OS F' (.slice T ys.length Y) ys Z ∧ aI f [(2, (.slice none 0 0)), (3, (.slice none 0 0)), (4, (.slice a0 z.length a2)), (5, (.slice a1 A.length a3)), (6, (.slice N xs.length V)), (7, (.slice T ys.length Y)), (18, (iI (z.length : Int))), (19, (iI (k : Int)))] ∧ mm = c.blocks.length - k ∧ (xs.length = k) ∧ (ys.length = k) ∧ (k ≤ c.blocks.length) ∧ (∀ b, b < k → Lst (xs.getD b default) (LIn c b)) ∧ (∀ b, b < k → Lst (ys.getD b default) (LOut c b))) _ ⟨([] : List (List Int)), ([] : List (List Int)), 0, none, 0, [], none, 0, [], _, fR, c3, (OS.nil : OS c9 (.slice none 0 0) ([] : List (List Int)) []), (OS.nil : OS c9 (.slice none 0 0) ([] : List (List Int)) []), (agC rfl (agC rfl (agC rfl (agC rfl (agC rfl (agC rfl (agC rfl (agC rfl agN)))))))), rfl, (by rfl), (by rfl), (by first | assumption | omega | (simp at *; omega)), (by intro b hb; omega), (by intro b hb; omega)⟩ ?_
  rintro hY ii h9 ⟨xs, ys, k, N, V, aw, T, Y, Z, h1, a9, a6, a5, U, d1, rfl, e1, e2, e3, e4, e5⟩ g9
  refine au _ d1 (fun _ => ?_)
  clear d1
  replace hT := (hT.mono ds).mono a9
  replace a4 := a4.mono a9
  replace E := E.mono a9
  refine aj 1 rfl ?_
  refine wR 2 [] 20 20 [] [(20, (.bool (decide ((k : Int) < (z.length : Int)))))] trivial rfl fun _ => ?_
  refine ak 4 5 (v := (decide ((k : Int) < (z.length : Int)))) rfl rfl rfl rfl (fun dl => ?_) (fun dl => ?_)
  ·
   try simp only [BS] at dl
   refine wR 1 [] 21 21 [8] [(8, (iI (k : Int)))] trivial rfl fun _ => ?_
   refine bc rfl ?_
   refine fm (.slice N xs.length V) rfl rfl rfl ?_
   refine fm (.slice a0 z.length a2) rfl rfl rfl ?_
   refine fm (iI (k : Int)) rfl rfl rfl ?_
   refine am (v := (.pointer (some ⟨sB (.slice a0 z.length a2), sO (.slice a0 z.length a2) + k * Rp.sz (List U64), none⟩))) (id := .v) (bU (α := (List U64)) (j := (k : Int)) rfl rfl rfl rfl (SR.sv a4 a6.log0) (by omega) (by omega)) rfl rfl (br rfl) (be _) ?_
   obtain ⟨hH, g4, g0⟩ := Sv.at (SR.sv a4 a6.log0) (aS (x := default) (show k < z.length from by omega))
   obtain ⟨es, f3, rfl, f5⟩ := g4
   refine am (v := (.slice es (z.getD k default).length f3)) (id := .l (sB (.slice a0 z.length a2))) (bN (i := 0) rfl rfl g0 rfl rfl) rfl rfl (bT rfl) (⟨.inl rfl, ⟨.inl rfl, ⟨.inl rfl, ⟨.inr trivial, trivial⟩⟩⟩⟩) ?_
   refine aX (W := []) (ah rfl rfl rfl) rfl rfl rfl (mb.list_c ex (z.getD k default) (HS.call a6.log0) f5 hT (by first | (rw [an.wi k (by omega)]; have := wd_le vF.regs; omega) | (rw [an.wo k (by omega)]; have := wd_le vF.regs; omega))) (⟨.inl rfl, ⟨.inl rfl, ⟨.inl rfl, ⟨.inl rfl, ⟨.inr trivial, trivial⟩⟩⟩⟩⟩) ?_
   rintro _ hl ⟨b0, b9, iv, ht, h2, bb, ad, rfl, f1, rfl⟩
   refine ⟨Wr.did ad.log, fun ha ez => ?_⟩
   replace ad := HS.back a6.log0 rfl ad
   replace ad := HS.lg ad a6 ez
   generalize ({ hl with log := ha } : Heap) = hA at ad ⊢
   have ad : HS _ _ _ [_, aw, Z, ht] _ := ad
   obtain ⟨h3, bk, b5, g5, hS⟩ := OS.frz f1 ad (i := 3) rfl
   have b5 : HS _ _ _ [_, _, _, []] _ := b5
   replace hT := (hT.mono bb).mono bk
   replace E := (E.mono bb).mono bk
   replace a5 := (a5.mono bb).mono bk
   refine dC (id := .a) (bA (α := (List Int)) (ps := [(0, (.slice b0 (eO (z.getD k default)).length b9))]) (cells := [(.slice b0 (eO (z.getD k default)).length b9)]) ([eO (z.getD k default)] : List (List Int)) b5.log0 rfl rfl rfl (by kernel_rfl) ⟨[(.slice b0 (eO (z.getD k default)).length b9)], [], rfl, ⟨b0, b9, rfl, g5⟩, rfl⟩ rfl) rfl rfl (fun _ _ _ _ => did_a rfl rfl rfl) (⟨.inl rfl, ⟨.inl rfl, ⟨.inl rfl, ⟨.inl rfl, ⟨.inl rfl, ⟨.inr trivial, trivial⟩⟩⟩⟩⟩⟩) ?_
   rintro _ hm hu ⟨ib, il, rfl, g2, al, _⟩ he e0
   replace al := HS.lg al b5 e0
   generalize ({ hm with log := he } : Heap) = hB at al ⊢
   have al : HS _ _ _ [_, _, _, _, hu] _ := al
   refine dC (id := .x (aw.map Prod.fst)) (bW (α := (List Int)) (q := 1) a5 al.log0 rfl rfl rfl (OS.sv g2 al.log0 (i := 4) rfl) rfl rfl rfl rfl rfl rfl rfl (by first | omega | (simp only [List.length_append, List.length_cons, List.length_nil]; omega))) rfl rfl (by rintro _ _ ea ⟨dd, d3, rfl, b4, _, hwr⟩; exact dP rfl rfl (Wr.did hwr)) (⟨.inl rfl, ⟨.inl rfl, ⟨.inl rfl, ⟨.inl rfl, ⟨.inl rfl, ⟨.inl rfl, ⟨.inl rfl, trivial⟩⟩⟩⟩⟩⟩⟩) ?_
   rintro _ hn ea ⟨dd, d3, rfl, b4, J, _⟩ hf e6
   replace J := HS.lg J al e6
   generalize ({ hn with log := hf } : Heap) = hC at J ⊢
   have J : HS _ _ _ [_, ea, _, _, _] _ := J
   refine fm (.slice T ys.length Y) rfl rfl rfl ?_
   refine fm (.slice a1 A.length a3) rfl rfl rfl ?_
   refine fm (iI (k : Int)) rfl rfl rfl ?_
   refine am (v := (.pointer (some ⟨sB (.slice a1 A.length a3), sO (.slice a1 A.length a3) + k * Rp.sz (List U64), none⟩))) (id := .v) (bU (α := (List U64)) (j := (k : Int)) rfl rfl rfl rfl (SR.sv E J.log0) (by omega) (by omega)) rfl rfl (br rfl) (be _) ?_
   obtain ⟨hI, g6, g1⟩ := Sv.at (SR.sv E J.log0) (aS (x := default) (show k < A.length from by omega))
   obtain ⟨et, f4, rfl, f6⟩ := g6
   refine am (v := (.slice et (A.getD k default).length f4)) (id := .l (sB (.slice a1 A.length a3))) (bN (i := 0) rfl rfl g1 rfl rfl) rfl rfl (bT rfl) (⟨.inl rfl, ⟨.inl rfl, ⟨.inl rfl, ⟨.inr trivial, ⟨.inr (SR.nin E al (i := 1) rfl (show k < A.length from by omega)), ⟨.inr trivial, ⟨.inr List.not_mem_nil, ⟨.inr trivial, ⟨.inr trivial, ⟨.inr trivial, ⟨.inr trivial, ⟨.inr trivial, trivial⟩⟩⟩⟩⟩⟩⟩⟩⟩⟩⟩⟩) ?_
   refine aX (W := []) (ah rfl rfl rfl) rfl rfl rfl (mb.list_c ex (A.getD k default) (HS.call J.log0) f6 hT (by first | (rw [an.wi k (by omega)]; have := wd_le vF.regs; omega) | (rw [an.wo k (by omega)]; have := wd_le vF.regs; omega))) (⟨.inl rfl, ⟨.inl rfl, ⟨.inl rfl, ⟨.inl rfl, ⟨.inr trivial, ⟨.inl rfl, ⟨.inl rfl, ⟨.inl rfl, ⟨.inl rfl, ⟨.inl rfl, ⟨.inl rfl, ⟨.inl rfl, ⟨.inl rfl, trivial⟩⟩⟩⟩⟩⟩⟩⟩⟩⟩⟩⟩⟩) ?_
   rintro _ hp ⟨b2, cc, iz, hw, h4, ci, ar, rfl, f2, rfl⟩
   refine ⟨Wr.did ar.log, fun hg fd => ?_⟩
   replace ar := HS.back J.log0 rfl ar
   replace ar := HS.lg ar J fd
   generalize ({ hp with log := hg } : Heap) = hD at ar ⊢
   have ar : HS _ _ _ [_, _, _, _, _, hw] _ := ar
   obtain ⟨h5, cl, b6, g7, hV⟩ := OS.frz f2 ar (i := 5) rfl
   have b6 : HS _ _ _ [_, _, _, _, _, []] _ := b6
   replace b4 := (b4.mono ci).mono cl
   replace U := (((U.mono bb).mono bk).mono ci).mono cl
   refine dC (id := .a) (bA (α := (List Int)) (ps := [(0, (.slice b2 (eO (A.getD k default)).length cc))]) (cells := [(.slice b2 (eO (A.getD k default)).length cc)]) ([eO (A.getD k default)] : List (List Int)) b6.log0 rfl rfl rfl (by kernel_rfl) ⟨[(.slice b2 (eO (A.getD k default)).length cc)], [], rfl, ⟨b2, cc, rfl, g7⟩, rfl⟩ rfl) rfl rfl (fun _ _ _ _ => did_a rfl rfl rfl) (⟨.inl rfl, ⟨.inl rfl, ⟨.inl rfl, ⟨.inl rfl, ⟨.inl rfl, ⟨.inr trivial, ⟨.inl rfl, ⟨.inl rfl, ⟨.inl rfl, ⟨.inl rfl, ⟨.inl rfl, ⟨.inl rfl, ⟨.inl rfl, ⟨.inl rfl, trivial⟩⟩⟩⟩⟩⟩⟩⟩⟩⟩⟩⟩⟩⟩) ?_
   rintro _ hq hz ⟨ih, it, rfl, g3, av, _⟩ hh fi
   replace av := HS.lg av b6 fi
   generalize ({ hq with log := hh } : Heap) = hE at av ⊢
   have av : HS _ _ _ [_, _, _, _, _, _, hz] _ := av
   refine dC (id := .x (Z.map Prod.fst)) (bW (α := (List Int)) (q := 2) U av.log0 rfl rfl rfl (OS.sv g3 av.log0 (i := 6) rfl) rfl rfl rfl rfl rfl rfl rfl (by first | omega | (simp only [List.length_append, List.length_cons, List.length_nil]; omega))) rfl rfl (by rintro _ _ em ⟨dk, d4, rfl, d2, _, hwr⟩; exact dP rfl rfl (Wr.did hwr)) (⟨.inl rfl, ⟨.inl rfl, ⟨.inl rfl, ⟨.inl rfl, ⟨.inl rfl, ⟨.inl rfl, ⟨.inl rfl, ⟨.inl rfl, ⟨.inl rfl, ⟨.inl rfl, ⟨.inl rfl, ⟨.inl rfl, ⟨.inl rfl, ⟨.inl rfl, ⟨.inl rfl, trivial⟩⟩⟩⟩⟩⟩⟩⟩⟩⟩⟩⟩⟩⟩⟩) ?_
   rintro _ hr em ⟨dk, d4, rfl, d2, a7, _⟩ hj f0
   replace a7 := HS.lg a7 av f0
   generalize ({ hr with log := hj } : Heap) = hF at a7 ⊢
   have a7 : HS _ _ _ [_, _, em, _, _, _, _] _ := a7
   refine fa (.slice dd (xs ++ ([eO (z.getD k default)] : List (List Int))).length d3) rfl rfl rfl ?_
   refine fa (.slice dk (ys ++ ([eO (A.getD k default)] : List (List Int))).length d4) rfl rfl rfl ?_
   refine cz ?_
   refine aj 2 rfl ?_
   refine wR 1 [] 19 19 [38] [(19, (iI ((k : Int) + 1)))] (vA (vi (n := (k : Int) + 1) (by omega)) trivial) rfl fun _ => ?_
   refine g9 _ _ _ ?_ ⟨xs ++ ([eO (z.getD k default)] : List (List Int)), ys ++ ([eO (A.getD k default)] : List (List Int)), k + 1, dd, d3, ea, dk, d4, em, _, (fT (fT (fT (fT (a9) bb) bk) ci) cl), (HS.sub a7 (List.sublist_append_left _ _)), b4, d2, (agC rfl (agC rfl (agC rfl (agC rfl (agC rfl (agC rfl (agC rfl (agC rfl agN)))))))), rfl, (by simp; omega), (by simp; omega), (by first | assumption | omega | (simp at *; omega)), (by exact lst_snoc e1 e4 (lst_of (an.hi k))), (by exact lst_snoc e2 e5 (lst_of (an.ho k (by omega))))⟩
   omega
  ·
   try simp only [BS] at dl
   refine wR 1 [] 2 3 [39, 40] [(2, (.slice N xs.length V)), (3, (.slice T ys.length Y))] trivial rfl fun _ => ?_
   obtain ⟨h6, dt, c4, co, hW⟩ := OS.frz a5 a6 (i := 1) rfl
   have c4 : HS _ _ _ [_, _, Z] _ := c4
   replace U := U.mono dt
   obtain ⟨h7, dv, c5, g8, hX⟩ := OS.frz U c4 (i := 2) rfl
   have c5 : HS _ _ _ [_, _, []] _ := c5
   replace co := co.mono dv
   refine ag ⟨.inr rfl, _, rfl, N, V, xs, T, Y, ys, _, (fT (fT (fT (fT (c6) ds) a9) dt) dv), (HS.forget c5), rfl, co, g8, (by first | exact fun h => absurd (h.symm.trans hv) (by decide) | exact fun _ => ⟨by omega, by omega, fun b hb => e4 b (by omega), fun b hb => e5 b (by omega)⟩), (by first | exact fun _ => ⟨rfl, rfl⟩ | exact fun h => absurd (hv.symm.trans h) (by decide))⟩
set_option maxHeartbeats 1000000 in
theorem points_c (ex : FuncId) {a0 : Option Addr} {a8 : Nat} (c : VFnT) (block : Int) {F : Fz} {H : Heap} {R : List Fp} (hs : HS (.of H []) F H [] R) (jc : in64 c.params) (jq : in64 c.regs) (Y : SR F (.slice a0 c.blocks.length a8) c.blocks) (hblock : in64 block) (hT : TB 37 tabC F) (hins : ∀ j, (c.blocks.getD j default).ins.length ≤ 1073741824) : C Tryd.prog 1 (KT 60 ex 37 tabC) 25 [(.agg ⟨[(iI c.params), (iI c.regs), (.slice a0 c.blocks.length a8)]⟩), (iI block)] H fun v H' => ∃ (al : Option Addr) (kl : Nat) (l : List (List Int)) (F' : Fz), Fz.le F F' ∧ HS (.of H []) F' H' [] R ∧ v = .slice al l.length kl ∧ SR F' (.slice al l.length kl) l ∧ (b8 c = true → 0 ≤ block → block < (c.blocks.length : Int) → PtF c block.toNat l) ∧ ((b8 c = false ∨ block < 0 ∨ (c.blocks.length : Int) ≤ block) → l = []) := by
 refine aG Tryd.func25 rfl rfl ?_
 refine aj 1 rfl ?_
 refine aa ?_
 refine aF (bB hs rfl rfl) rfl rfl ?_
 rintro _ H2 _ ⟨b1, rfl, c0, _⟩
 let ea : Fp := [(b1, .cells [(iI c.params), (iI c.regs), (.slice a0 c.blocks.length a8)] none false)]
 have c0 : HS _ _ _ [ea] _ := c0
 refine wa (.slice none 0 0) rfl rfl rfl ?_
 refine ae 3 rfl ?_
 refine aa ?_
 let em : Value := (.agg ⟨[(iI c.params), (iI c.regs), (.slice a0 c.blocks.length a8)]⟩)
 refine wRo 1 0 [(0, .o em)] 11 11 [] [(11, em)] (vA (qn 24 0 3 (HS.hc c0 (i := 0) rfl) rfl rfl rfl rfl) trivial) rfl fun _ => ?_
 refine aA (ah rfl rfl rfl) rfl rfl (m3.valid_c ex c (HS.call c0) (by first | (dsimp only; omega) | omega) (by first | (dsimp only; omega) | omega) Y hT (by exact fun j => Nat.le_trans (hins j) (by omega))) ?_
 rintro _ H4 ⟨r4, F4, dv, ax, rfl, rfl⟩
 replace ax := HS.back c0 rfl ax
 have ax : HS _ _ _ [_] _ := ax
 replace hT := hT.mono dv
 replace Y := Y.mono dv
 refine wRo 12 2 [(10, .o (.slice a0 c.blocks.length a8))] 13 24 [] [(24, (.bool (((!(b8 c)) || (decide (block < 0))) || (decide ((c.blocks.length : Int) ≤ block)))))] (vA (fun (g1 : ((!(b8 c)) || (decide (block < 0))) = false) => (ql 22 2 (HS.hc ax (i := 0) rfl) rfl rfl)) trivial) rfl fun _ => ?_
 refine ae 1 rfl ?_
 refine ak 1 2 (v := (((!(b8 c)) || (decide (block < 0))) || (decide ((c.blocks.length : Int) ≤ block)))) rfl rfl rfl rfl (fun c6 => ?_) (fun c6 => ?_)
 ·
  try simp only [BS] at c6
  have hb := c6
  refine wR 1 [] 4 4 [] [(4, (.slice none 0 0))] trivial rfl fun _ => ?_
  refine ag ⟨.inr rfl, _, rfl, none, 0, ([] : List (List Int)), _, (dv), (HS.forget ax), rfl, (SR.nil : SR F4 (.slice none 0 0) ([] : List (List Int))), (by first | exact fun h h2 h3 => absurd hb (by simp [h]; omega) | exact fun _ _ _ => ⟨e2, fun i hi => e5 i (show (iz + 1).toNat ≤ i by omega) hi⟩), (by first | exact fun _ => rfl | exact fun h => by rw [hv] at h; simp at h; omega)⟩
 ·
  try simp only [BS] at c6
  have hb := c6
  have hv : b8 c = true := hb.1.1
  have vF := jF hv
  have hnb := vF.nb
  have hbn : block.toNat < c.blocks.length := by omega
  have hwd := wd_le vF.regs
  have hfn : ((c.blocks.getD block.toNat default).fin = 2 ∨ (c.blocks.getD block.toNat default).fin = 3) → 0 ≤ (c.blocks.getD block.toNat default).reg ∧ (c.blocks.getD block.toNat default).reg < c.regs := vF.fin block.toNat hbn
  have hbl := hins block.toNat
  refine aa ?_
  refine wRo 1 0 [(0, .o em)] 26 26 [] [(26, em)] (vA (qn 24 0 3 (HS.hc ax (i := 0) rfl) rfl rfl rfl rfl) trivial) rfl fun _ => ?_
  refine aA (ah rfl rfl rfl) rfl rfl (mc.jC ex c (HS.call ax) (by first | (dsimp only; omega) | omega) (by first | (dsimp only; omega) | omega) Y hT (by first | assumption | exact fun j => Nat.le_trans (hins j) (by omega)) (by first | assumption | exact fun j => Nat.le_trans (hins j) (by omega))) ?_
  rintro _ H9 ⟨il, kd, lB, he, hu, ar, F9, fd, bl, rfl, h6, d3, h9⟩
  replace bl := HS.back ax rfl bl
  have bl : HS _ _ _ [_] _ := bl
  replace hT := hT.mono fd
  replace Y := Y.mono fd
  refine wRo 5 2 [] 28 29 [5, 6, 25] [(6, (.slice he ar.length hu))] trivial rfl fun _ => ?_
  refine ae 2 rfl ?_
  have an := (by assumption : AnF c _ _)
  have hli := an.li
  have hlo := an.lo
  have hwo := an.wo block.toNat hbn
  have kc : (ar.getD block.toNat []).length = wds c := hwo
  refine aa ?_
  obtain ⟨N, f0⟩ := Sv.view (SR.sv Y bl)
  obtain ⟨hK, hM, hQ, hR, V⟩ := BlkT.fx (f0 block.toNat)
  let es : Value := (.agg ⟨[(.slice (cA (N block.toNat) 0) (c.blocks.getD block.toNat default).ins.length (cK (N block.toNat) 0)), (iI (c.blocks.getD block.toNat default).fin), (iI (c.blocks.getD block.toNat default).reg), (iI (c.blocks.getD block.toNat default).tgt), (iI (c.blocks.getD block.toNat default).els)]⟩)
  refine wRo 5 0 [(1, .o (.slice a0 c.blocks.length a8)), (4, .o es)] 30 34 [] [(34, es)] (vA (ql 22 2 (HS.hc bl (i := 0) rfl) rfl rfl) (vA (Sv.ix (j := block) (SR.sv Y bl) (by first | (dsimp only; omega) | omega) (by first | (dsimp only; omega) | omega)) (vA (qn 42 0 5 (BlkT.vw (f0 block.toNat) (by first | (dsimp only; omega) | omega)) rfl rfl rfl rfl) trivial))) rfl fun _ => ?_
  refine aF (bE bl rfl) rfl rfl ?_
  rintro _ k0 _ ⟨co, rfl, c9, _⟩
  have c9 : HS _ _ _ [_, [(co, .cells [(.slice none 0 0), (iI 0), (iI 0), (iI 0), (iI 0)] none false)]] _ := c9
  refine aM (aD (q := 1) c9 rfl rfl rfl rfl rfl rfl rfl rfl rfl) rfl ?_
  rintro _ k3 _ ⟨dd, _⟩
  let et : Fp := [(co, .cells [(.slice (cA (N block.toNat) 0) (c.blocks.getD block.toNat default).ins.length (cK (N block.toNat) 0)), (iI (c.blocks.getD block.toNat default).fin), (iI (c.blocks.getD block.toNat default).reg), (iI (c.blocks.getD block.toNat default).tgt), (iI (c.blocks.getD block.toNat default).els)] none false)]
  have dd : HS _ _ _ [_, et] _ := dd
  refine ae 2 rfl ?_
  refine aa ?_
  refine aF (bA (α := U64) (ps := []) (cells := []) ([] : List U64) dd rfl rfl rfl (by kernel_rfl) rfl rfl) rfl rfl ?_
  rintro _ k4 hH ⟨lv, lC, rfl, hn, a4, _⟩
  have a4 : HS _ _ _ [_, _, hH] _ := a4
  obtain ⟨b7, f1⟩ := Sv.view (SR.sv d3 a4)
  have hI := fL (f1 block.toNat)
  refine wRo 4 1 [(4, .o (.slice (cA (b7 block.toNat) 0) (ar.getD block.toNat default).length (cK (b7 block.toNat) 0)))] 36 39 [] [(39, (.slice (cA (b7 block.toNat) 0) (ar.getD block.toNat default).length (cK (b7 block.toNat) 0)))] (vA (Sv.ix (j := block) (SR.sv d3 a4) (by first | (dsimp only; omega) | omega) (by first | (dsimp only; omega) | omega)) (vA (ql 83 0 (vL (f1 block.toNat) (by first | (dsimp only; omega) | omega)) rfl rfl) trivial)) rfl fun _ => ?_
  refine aF (bW (α := U64) (q := 2) hn a4 rfl rfl rfl (SR.sv hI a4) rfl rfl rfl rfl rfl rfl rfl (by first | omega | (simp only [List.length_append, List.length_cons, List.length_nil]; omega))) rfl rfl ?_
  rintro _ k5 g6 ⟨b3, b6, rfl, c7, b5, _⟩
  have b5 : HS _ _ _ [_, _, g6] _ := b5
  have c7 : OS F9 (.slice b3 (ar.getD block.toNat default).length b6) (ar.getD block.toNat default) g6 := c7
  refine wa (.slice b3 (ar.getD block.toNat default).length b6) rfl rfl rfl ?_
  refine ae 2 rfl ?_
  refine aa ?_
  refine wRo 2 0 [(1, .o es)] 41 42 [] [(41, (.slice b3 (ar.getD block.toNat default).length b6)), (42, es)] (vA (qn 42 0 5 (HS.hc b5 (i := 1) rfl) rfl rfl rfl rfl) trivial) rfl fun _ => ?_
  refine aA (ah rfl rfl rfl) rfl rfl (mb.addT_c ex (ar.getD block.toNat default) (c.blocks.getD block.toNat default) (HS.callOwn b5 (i := 2) rfl) c7 V (by first | (dsimp only; omega) | omega) (by first | (dsimp only; omega) | omega) (by first | (dsimp only; omega) | omega) (by first | (dsimp only; omega) | omega) hT (by first | omega | exact fun hf => by have := hfn hf; omega) (by first | omega | exact fun hf => by have := hfn hf; omega)) ?_
  rintro _ k6 ⟨a9, ds, g5, c3, a5, rfl, a1, i1, i3⟩
  replace a5 := HS.backOwn b5 (i := 2) rfl rfl (fun _ hb => hb) a5
  have a5 : HS _ _ _ [_, _, ds] _ := a5
  replace hT := hT.mono c3
  replace V := V.mono c3
  have ki := OS.len' a1
  refine ae 2 rfl ?_
  refine aa ?_
  refine wRo 4 0 [(1, .o (.slice (cA (N block.toNat) 0) (c.blocks.getD block.toNat default).ins.length (cK (N block.toNat) 0)))] 44 47 [] [(47, (iI (((c.blocks.getD block.toNat default).ins.length : Int) + 1)))] (vA (ql 40 0 (HS.hc a5 (i := 1) rfl) rfl rfl) (vA (vi (n := ((c.blocks.getD block.toNat default).ins.length : Int) + 1) (by first | (dsimp only; omega) | omega)) trivial)) rfl fun _ => ?_
  refine aF (fG ([] : (List Int)) a5 rfl rfl rfl rfl rfl rfl rfl rfl rfl ⟨none, 0, rfl, SR.nil⟩ (by first | (dsimp only; omega) | omega) (by first | (dsimp only; omega) | omega)) rfl rfl ?_
  rintro _ k7 d4 ⟨bk, bz, rfl, a3, av, _⟩
  have av : HS _ _ _ [_, _, _, d4] _ := av
  have a3 : OS g5 (.slice bk (List.replicate ((c.blocks.getD block.toNat default).ins.length + 1) ([] : (List Int))).length bz) (List.replicate ((c.blocks.getD block.toNat default).ins.length + 1) ([] : (List Int))) d4 := a3
  refine wa (.slice bk (List.replicate ((c.blocks.getD block.toNat default).ins.length + 1) ([] : (List Int))).length bz) rfl rfl rfl ?_
  refine ae 2 rfl ?_
  have hrl : (List.replicate ((c.blocks.getD block.toNat default).ins.length + 1) ([] : List Int)).length = (c.blocks.getD block.toNat default).ins.length + 1 := List.length_replicate
  refine bc rfl ?_
  refine fm (.slice bk (List.replicate ((c.blocks.getD block.toNat default).ins.length + 1) ([] : (List Int))).length bz) rfl rfl rfl ?_
  refine am (v := (.pointer (some ⟨co, 0, none⟩))) (id := .v) (dA rfl rfl) rfl rfl (br rfl) (be _) ?_
  refine am (v := (.slice (cA (N block.toNat) 0) (c.blocks.getD block.toNat default).ins.length (cK (N block.toNat) 0))) (id := .l co) (bN (i := 0) rfl rfl (HS.hc av.log0 (i := 1) rfl) rfl rfl) rfl rfl (bT rfl) (⟨.inl rfl, ⟨.inr trivial, trivial⟩⟩) ?_
  refine am (v := (iI ((c.blocks.getD block.toNat default).ins.length : Int))) (id := .v) (fZ (α := VInT) rfl rfl (SR.sv V av.log0)) rfl rfl (gP rfl) (be _) ?_
  refine fm (.slice b3 (ar.getD block.toNat default).length b6) rfl rfl rfl ?_
  obtain ⟨ib, d1, b0, g2, go⟩ := OS.frz a1 av (i := 2) rfl
  have b0 : HS _ _ _ [_, _, [], _] _ := b0
  refine aX (W := []) (ah rfl rfl rfl) rfl rfl rfl (mb.list_c ex a9 (HS.call b0.log0) g2 (hT.mono d1) (by first | (dsimp only; omega) | omega)) (⟨.inl rfl, ⟨.inr trivial, ⟨.inr List.not_mem_nil, ⟨.inr trivial, ⟨.inr trivial, trivial⟩⟩⟩⟩⟩) ?_
  rintro _ hE ⟨hg, hw, lD, g7, kr, hk, T, rfl, ch, rfl⟩
  refine ⟨Wr.did T.log, fun hA f7 => ?_⟩
  replace T := HS.back b0.log0 rfl T
  replace T := HS.lg T av f7
  generalize ({ hE with log := hA } : Heap) = ii at T ⊢
  replace T := HS.thawX (M := [g7]) av (i := 2) rfl d1 go hk T
  replace ch := OS.ind (F' := g5) ch
  have T : HS _ _ _ [ea, et, ds, d4, g7] _ := T
  refine am (v := (.pointer (some ⟨sB (.slice bk (List.replicate ((c.blocks.getD block.toNat default).ins.length + 1) ([] : (List Int))).length bz), sO (.slice bk (List.replicate ((c.blocks.getD block.toNat default).ins.length + 1) ([] : (List Int))).length bz) + (c.blocks.getD block.toNat default).ins.length * Rp.sz (List Int), none⟩))) (id := .v) (bU (α := (List Int)) (j := ((c.blocks.getD block.toNat default).ins.length : Int)) rfl rfl rfl rfl (OS.sv a3 T.log0 (i := 3) rfl) (by first | (dsimp only; omega) | omega) (by first | (dsimp only; omega) | omega)) rfl rfl (br rfl) (be _) ?_
  obtain ⟨hC, b4, cl, hp, jw⟩ := OS.frz ch T (i := 4) rfl
  have cl : HS _ _ _ [_, _, _, _, []] _ := cl
  replace a1 := a1.mono b4
  replace a3 := a3.mono b4
  refine ku (id := .x (d4.map Prod.fst)) (du (α := (List Int)) (j := (c.blocks.getD block.toNat default).ins.length) (off := 0) (q := 3) (eO a9) a3 cl.log0 rfl rfl rfl rfl rfl rfl rfl rfl (aS (x := default) (by first | (dsimp only; omega) | omega)) rfl (by rintro cs ⟨_, _, rfl, _⟩; exact ⟨Nat.le_of_ble_eq_true rfl, ⟨hg, hw, rfl, hp⟩⟩)) rfl (by rintro _ _ f4 ⟨cc, _, hwr⟩; exact dP rfl rfl (Wr.did hwr)) (⟨.inl rfl, ⟨.inl rfl, ⟨.inl rfl, ⟨.inl rfl, ⟨.inl rfl, ⟨.inl rfl, ⟨.inl rfl, trivial⟩⟩⟩⟩⟩⟩⟩) ?_
  rintro _ hF f4 ⟨cc, aw, _⟩ hB f9
  replace aw := HS.lg aw cl f9
  generalize ({ hF with log := hB } : Heap) = ik at aw ⊢
  have aw : HS _ _ _ [_, _, _, f4, _] _ := aw
  have h4 := OS.len' cc
  refine cz ?_
  refine aj 3 rfl ?_
  refine wR 2 [(1, .o (.slice (cA (N block.toNat) 0) (c.blocks.getD block.toNat default).ins.length (cK (N block.toNat) 0)))] 56 59 [10] [(10, (iI (((c.blocks.getD block.toNat default).ins.length : Int) - 1)))] (vA (ql 40 0 (HS.hc aw (i := 1) rfl) rfl rfl) (vA (vi (n := ((c.blocks.getD block.toNat default).ins.length : Int) - 1) (by first | (dsimp only; omega) | omega)) trivial)) rfl fun _ => ?_
  refine ap (fun (mm : Nat) f H' => ∃ (sw : List U64) (pl : List (List Int)) (iz : Int) (E : Option Addr) (J : Nat) (ay : Fp) (z : Option Addr) (A : Nat) (ad : Fp) (F' : Fz), Fz.le hC F' ∧ HS (Base.of H []) F' H' [ea, et, ay, ad, []] R ∧ OS F' (.slice E sw.length J) sw ay ∧ OS F' (.slice z pl.length A) pl ad ∧ aI f [(4, (.slice none 0 0)), (7, (.pointer (some ⟨co, 0, none⟩))), (8, (.slice E sw.length J)), (9, (.slice z pl.length A)), (10, (iI iz))] ∧ mm = (iz + 1).toNat ∧ (sw.length = wds c) ∧ (pl.length = (c.blocks.getD block.toNat default).ins.length + 1) ∧ (-1 ≤ iz ∧ iz < ((c.blocks.getD block.toNat default).ins.length : Int)) ∧ (∀ r, aq sw r = true ↔ ptS c block.toNat (iz + 1).toNat r) ∧ (∀ j, (iz + 1).toNat ≤ j → j ≤ (c.blocks.getD block.toNat default).ins.length → Lst (pl.getD j default) (ptS c block.toNat j))) _ ⟨a9, (List.replicate ((c.blocks.getD block.toNat default).ins.length + 1) ([] : (List Int))).set (c.blocks.getD block.toNat default).ins.length (eO a9), ((c.blocks.getD block.toNat default).ins.length : Int) - 1, b3, b6, ds, bk, bz, f4, _, fR, aw, (OS.norm a1), (OS.norm cc), (agC rfl (agC rfl (agC (show Value.slice b3 (ar.getD block.toNat default).length b6 = Value.slice b3 a9.length b6 by rw [OS.len' a1]) (agC (show Value.slice bk (List.replicate ((c.blocks.getD block.toNat default).ins.length + 1) ([] : (List Int))).length bz = Value.slice bk ((List.replicate ((c.blocks.getD block.toNat default).ins.length + 1) ([] : (List Int))).set (c.blocks.getD block.toNat default).ins.length (eO a9)).length bz by rw [OS.len' cc]) (agC rfl agN))))), rfl, (by omega), (by simp), (by first | assumption | omega | (simp at *; omega)), (by exact kJ (show (c.blocks.getD block.toNat default).ins.length ≤ _ by first | omega | (dsimp only; omega)) (an.ho _ hbn) (by assumption)), (by exact fun j h1 h2 => by (rw [show j = (c.blocks.getD block.toNat default).ins.length by omega, eM, if_pos ⟨rfl, by simp⟩]; exact lst_of (kJ (Nat.le_refl _) (an.ho _ hbn) (by assumption))))⟩ ?_
  rintro kn lA k8 ⟨sw, pl, iz, E, J, ay, z, A, ad, kt, b9, a6, f3, U, fi, rfl, e1, e2, e3, e4, e5⟩ ht
  refine au _ fi (fun _ => ?_)
  clear fi
  replace hT := (hT.mono b4).mono b9
  replace V := (V.mono b4).mono b9
  refine aj 2 rfl ?_
  refine wR 1 [] 60 61 [] [(61, (.bool (decide ((0 : Int) ≤ iz))))] trivial rfl fun _ => ?_
  refine ak 4 5 (v := (decide ((0 : Int) ≤ iz))) rfl rfl rfl rfl (fun ez => ?_) (fun ez => ?_)
  ·
   try simp only [BS] at ez
   have hvl : (∀ x ∈ aW ((c.blocks.getD block.toNat default).ins.getD iz.toNat default), 0 ≤ x ∧ x < c.regs) ∧ (∀ x ∈ aN ((c.blocks.getD block.toNat default).ins.getD iz.toNat default), 0 ≤ x ∧ x < c.regs) ∧ ((c.blocks.getD block.toNat default).ins.getD iz.toNat default).args.length ≤ 6 := cE (vF.ins block.toNat hbn iz.toNat (show iz.toNat < (c.blocks.getD block.toNat default).ins.length by omega))
   have j2 := hvl.2.2
   refine aa ?_
   obtain ⟨e6, f2⟩ := Sv.view (SR.sv V a6)
   obtain ⟨hS, hV, hW, hX, hY, g4⟩ := VInT.fx (f2 iz.toNat)
   let ha : Value := (.agg ⟨[(iI ((c.blocks.getD block.toNat default).ins.getD iz.toNat default).i.op), (iI ((c.blocks.getD block.toNat default).ins.getD iz.toNat default).i.a), (iI ((c.blocks.getD block.toNat default).ins.getD iz.toNat default).i.b), (iI ((c.blocks.getD block.toNat default).ins.getD iz.toNat default).i.c), (iI ((c.blocks.getD block.toNat default).ins.getD iz.toNat default).i.n), (.slice (cA (e6 iz.toNat) 5) ((c.blocks.getD block.toNat default).ins.getD iz.toNat default).args.length (cK (e6 iz.toNat) 5))]⟩)
   refine wRo 6 0 [(2, .o (.slice (cA (N block.toNat) 0) (c.blocks.getD block.toNat default).ins.length (cK (N block.toNat) 0))), (5, .o ha)] 64 69 [] [(64, (.slice E sw.length J)), (69, ha)] (vA (ql 40 0 (HS.hc a6 (i := 1) rfl) rfl rfl) (vA (Sv.ix (j := iz) (SR.sv V a6) (by first | (dsimp only; omega) | omega) (by first | (dsimp only; omega) | omega)) (vA (qn 47 0 6 (VInT.vw (f2 iz.toNat) (by first | (dsimp only; omega) | omega)) rfl rfl rfl rfl) trivial))) rfl fun _ => ?_
   refine aA (ah rfl rfl rfl) rfl rfl (mb.gE ex sw ((c.blocks.getD block.toNat default).ins.getD iz.toNat default) (HS.callOwn a6 (i := 2) rfl) f3 (by first | (dsimp only; omega) | omega) (by first | (dsimp only; omega) | omega) (by first | (dsimp only; omega) | omega) (by first | (dsimp only; omega) | omega) (by first | (dsimp only; omega) | omega) g4 hT (by first | omega | exact fun x hx => by have := hvl.1 x hx; omega | exact fun x hx => by have := hvl.2.1 x hx; omega) (by first | omega | exact fun x hx => by have := hvl.1 x hx; omega | exact fun x hx => by have := hvl.2.1 x hx; omega) (by first | omega | exact fun x hx => by have := hvl.1 x hx; omega | exact fun x hx => by have := hvl.2.1 x hx; omega) (by first | omega | exact fun x hx => by have := hvl.1 x hx; omega | exact fun x hx => by have := hvl.2.1 x hx; omega)) ?_
   rintro _ k9 ⟨bb, dt, hD, c4, a7, rfl, a2, i2, ja⟩
   replace a7 := HS.backOwn a6 (i := 2) rfl rfl (fun _ hb => hb) a7
   have a7 : HS _ _ _ [_, _, dt, ad, _] _ := a7
   replace hT := hT.mono c4
   replace U := U.mono c4
   have kk := OS.len' a2
   refine ae 1 rfl ?_
   refine aa ?_
   refine wRo 3 0 [] 71 73 [] [(71, (.slice z pl.length A)), (72, (iI iz)), (73, (.slice E sw.length J))] trivial rfl fun _ => ?_
   obtain ⟨ih, d2, b2, g3, g0⟩ := OS.frz a2 a7 (i := 2) rfl
   have b2 : HS _ _ _ [_, _, [], _, _] _ := b2
   refine aA (ah rfl rfl rfl) rfl rfl (mb.list_c ex bb (HS.call b2) g3 (hT.mono d2) (by first | (dsimp only; omega) | omega)) ?_
   rintro _ la ⟨hh, hz, lE, g8, kx, hl, Z, rfl, ci, rfl⟩
   replace Z := HS.back b2 rfl Z
   replace Z := HS.thawX (M := [g8]) a7 (i := 2) rfl d2 g0 hl Z
   replace ci := OS.ind (F' := hD) ci
   have Z : HS _ _ _ [ea, et, dt, ad, [], g8] _ := Z
   refine wRo 1 4 [] 75 75 [] [(75, (.pointer (some ⟨sB (.slice z pl.length A), sO (.slice z pl.length A) + iz.toNat * Rp.sz (List Int), none⟩)))] (vA (Sv.ix (j := iz) (OS.sv U Z (i := 3) rfl) (by first | (dsimp only; omega) | omega) (by first | (dsimp only; omega) | omega)) trivial) rfl fun _ => ?_
   obtain ⟨ky, c5, dk, hq, j0⟩ := OS.frz ci Z (i := 5) rfl
   have dk : HS _ _ _ [_, _, _, _, _, []] _ := dk
   replace a2 := a2.mono c5
   replace U := U.mono c5
   refine aM (du (α := (List Int)) (j := iz.toNat) (off := 0) (q := 3) (eO bb) U dk rfl rfl rfl rfl rfl rfl rfl rfl (aS (x := default) (by first | (dsimp only; omega) | omega)) rfl (by rintro cs ⟨_, _, rfl, _⟩; exact ⟨Nat.le_of_ble_eq_true rfl, ⟨hh, hz, rfl, hq⟩⟩)) rfl ?_
   rintro _ lr g9 ⟨c8, dl, _⟩
   have dl : HS _ _ _ [_, _, _, g9, _, _] _ := dl
   have h5 := OS.len' c8
   refine ae 2 rfl ?_
   refine wR 1 [] 62 63 [10] [(10, (iI (iz - 1)))] (vA (vi (n := iz - 1) (by first | (dsimp only; omega) | omega)) trivial) rfl fun _ => ?_
   refine ht _ _ _ ?_ ⟨bb, pl.set iz.toNat (eO bb), iz - 1, E, J, dt, z, A, g9, _, (fT (fT (b9) c4) c5), (HS.sub dl (List.sublist_append_left _ _)), (OS.norm a2), (OS.norm c8), (agC rfl (agC rfl (agC (show Value.slice E sw.length J = Value.slice E bb.length J by rw [OS.len' a2]) (agC (show Value.slice z pl.length A = Value.slice z (pl.set iz.toNat (eO bb)).length A by rw [OS.len' c8]) (agC rfl agN))))), rfl, (by omega), (by rw [List.length_set]; exact e2), (by first | assumption | omega | (simp at *; omega)), (by rw [show (iz - 1 + 1).toNat = iz.toNat by omega]; exact kA (show iz.toNat < (c.blocks.getD block.toNat default).ins.length by omega) (by rw [show iz.toNat + 1 = (iz + 1).toNat by omega]; exact e4) (by assumption)), (by rw [show (iz - 1 + 1).toNat = iz.toNat by omega]; exact set_pt e2 (fun j h1 h2 => e5 j (show (iz + 1).toNat ≤ j by omega) h2) (show iz.toNat ≤ (c.blocks.getD block.toNat default).ins.length by omega) (lst_of (kA (show iz.toNat < (c.blocks.getD block.toNat default).ins.length by omega) (by rw [show iz.toNat + 1 = (iz + 1).toNat by omega]; exact e4) (by assumption))))⟩
   omega
  ·
   try simp only [BS] at ez
   refine wR 1 [] 4 4 [76] [(4, (.slice z pl.length A))] trivial rfl fun _ => ?_
   obtain ⟨kz, hm, dn, hr, j1⟩ := OS.frz U a6 (i := 3) rfl
   have dn : HS _ _ _ [_, _, ay, [], _] _ := dn
   refine ag ⟨.inr rfl, _, rfl, z, A, pl, _, (fT (fT (fT (fT (fT (dv) fd) c3) b4) b9) hm), (HS.forget dn), rfl, hr, (by first | exact fun h h2 h3 => absurd hb (by simp [h]; omega) | exact fun _ _ _ => ⟨e2, fun i hi => e5 i (show (iz + 1).toNat ≤ i by omega) hi⟩), (by first | exact fun _ => rfl | exact fun h => by rw [hv] at h; simp at h; omega)⟩
end Go.Proofs.YtlabedbmgmfbaaaDoor.md
