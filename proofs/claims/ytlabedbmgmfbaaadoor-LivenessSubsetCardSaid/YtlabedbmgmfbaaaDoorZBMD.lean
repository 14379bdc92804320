/-
 Live registers: Blocks, Points and AcrossCalls, each by a symbolic run. No condition but bounds on lengths.
-/
import Derived.Test.YtlabedbmgmfbaaaDoorZBMC
noncomputable section
namespace Go.Proofs.YtlabedbmgmfbaaaDoor.md
open Go.R
set_option maxRecDepth 10000
set_option linter.unusedVariables false
open m1 m2 m3 m4 m5 m6 ma ml mb mc
structure Lst (l : List Int) (S : Nat → Prop) : Prop where
 asc : Asc l
 mem : ∀ x, x ∈ l ↔ 0 ≤ x ∧ S x.toNat
theorem lst_of {s : List U64} {S : Nat → Prop} (h : ∀ r, bitOf s r = true ↔ S r) : Lst (lstV s) S := ⟨lst_asc, fun x => by rw [lst_mem, h]⟩
structure BkF (c : VFnT) (x y : List (List Int)) : Prop where
 lx : x.length = c.blocks.length
 ly : y.length = c.blocks.length
 hx : ∀ b, b < c.blocks.length → Lst (x.getD b default) (LIn c b)
 hy : ∀ b, b < c.blocks.length → Lst (y.getD b default) (LOut c b)
def ptS (c : VFnT) (b i : Nat) : Nat → Prop := tr ((blkN c b).ins.drop i) (endS (blkN c b) (LOut c b))
structure PtF (c : VFnT) (b : Nat) (l : List (List Int)) : Prop where
 len : l.length = (blkN c b).ins.length + 1
 pt : ∀ i, i ≤ (blkN c b).ins.length → Lst (l.getD i default) (ptS c b i)
def acI (c : VFnT) (b i r : Nat) : Prop := ((blkN c b).ins.getD i default).i.op = 6 ∧ ((ptS c b (i + 1) r ∧ (r : Int) ≠ ((blkN c b).ins.getD i default).i.a) ∨ (r : Int) ∈ ((blkN c b).ins.getD i default).args)
def acS (c : VFnT) (r : Nat) : Prop := ∃ b i, b < c.blocks.length ∧ i < (blkN c b).ins.length ∧ acI c b i r
theorem at_snoc {α : Type} {d : α} {l : List α} {x : α} {j : Nat} : (l ++ [x]).getD j d = if j = l.length then x else l.getD j d := by
 rw [List.getD_eq_getElem?_getD, List.getD_eq_getElem?_getD, List.getElem?_append]
 by_cases h : j < l.length
 ·
  rw [if_pos h, if_neg (by omega)]
 ·
  rw [if_neg h]
  by_cases z : j = l.length
  ·
   subst z; rw [if_pos rfl, Nat.sub_self]; rfl
  ·
   rw [if_neg z, List.getElem?_eq_none (by simp; omega), List.getElem?_eq_none (by omega)]
theorem lst_snoc {l : List (List Int)} {S : Nat → Nat → Prop} {k : Nat} {x : List Int} (hl : l.length = k) (h : ∀ b, b < k → Lst (l.getD b default) (S b)) (hx : Lst x (S k)) : ∀ b, b < k + 1 → Lst ((l ++ [x]).getD b default) (S b) := fun b hb => by
 rw [at_snoc]
 split
 ·
  rename_i e; rw [hl] at e; subst e; exact hx
 ·
  exact h b (by omega)
set_option maxHeartbeats 1000000 in
theorem blocks_c (ex : FuncId) {ab : Option Addr} {ae : Nat} (c : VFnT) {F : Fz} {H : Heap} {R : List Fp} (hs : HS (.of H []) F H [] R) (b5 : in64 c.params) (b6 : in64 c.regs) (aB : SR F (.slice ab c.blocks.length ae) c.blocks) (hT : TB 37 tabC F) (hins : ∀ j, (c.blocks.getD j default).ins.length ≤ 1073741824) : C Tryd.prog 1 (KT 60 ex 37 tabC) 19 [(.agg ⟨[(.int .i64 c.params), (.int .i64 c.regs), (.slice ab c.blocks.length ae)]⟩)] H fun v H' => ∃ (ax : Option Addr) (kx : Nat) (x : List (List Int)) (ay : Option Addr) (ky : Nat) (y : List (List Int)) (F' : Fz), Fz.le F F' ∧ HS (.of H []) F' H' [] R ∧ v = .tuple ⟨[.slice ax x.length kx, .slice ay y.length ky]⟩ ∧ SR F' (.slice ax x.length kx) x ∧ SR F' (.slice ay y.length ky) y ∧ (valV c = true → BkF c x y) ∧ (valV c = false → x = [] ∧ y = []) := by
 refine c_enter Tryd.func19 rfl rfl ?_
 refine wk_foc 1 rfl ?_
 refine wk_region ?_
 refine wo_rs (rs_box hs rfl rfl) rfl rfl ?_
 rintro _ H2 _ ⟨b1, rfl, aH, _⟩
 have aH : HS _ _ _ [[(b1, .cells [(.int .i64 c.params), (.int .i64 c.regs), (.slice ab c.blocks.length ae)] none false)]] _ := aH
 refine wro 2 1 [] 2 3 [] [(2, (.slice none 0 0)), (3, (.slice none 0 0))] trivial (by kernel_rfl) rfl fun _ => ?_
 refine wo_end 3 rfl ?_
 refine wk_region ?_
 refine wro 1 0 [(0, .o (.agg ⟨[(.int .i64 c.params), (.int .i64 c.regs), (.slice ab c.blocks.length ae)]⟩))] 9 9 [] [(9, (.agg ⟨[(.int .i64 c.params), (.int .i64 c.regs), (.slice ab c.blocks.length ae)]⟩))] (vA (qn 24 0 3 (HS.hc aH (i := 0) rfl) rfl rfl rfl rfl) trivial) (by kernel_rfl) rfl fun _ => ?_
 refine wo_call (ap_call rfl rfl rfl) rfl rfl (m3.valid_c ex c (HS.call aH) (by omega) (by omega) aB hT (by exact fun j => Nat.le_trans (hins j) (by omega))) ?_
 rintro _ H5 ⟨r5, F5, aQ, aq, rfl, rfl⟩
 replace aq := HS.back aH rfl aq
 have aq : HS _ _ _ [_] _ := aq
 replace hT := hT.mono aQ
 replace aB := aB.mono aQ
 refine wro 1 2 [] 11 11 [] [(11, (.bool (!(valV c))))] trivial (by kernel_rfl) rfl fun _ => ?_
 refine wo_end 1 rfl ?_
 refine wk_if 1 2 (v := (!(valV c))) rfl rfl rfl rfl (fun aW => ?_) (fun aW => ?_)
 ·
  have c7 := aW
  try simp only [BS] at c7
  have hv := c7
  refine wr 1 [] 2 3 [] [(2, (.slice none 0 0)), (3, (.slice none 0 0))] trivial (by kernel_rfl) rfl fun _ => ?_
  refine wk_ret ⟨.inr rfl, _, rfl, none, 0, ([] : List (List Int)), none, 0, ([] : List (List Int)), _, (aQ), (HS.forget aq), rfl, (SR.nil : SR F5 (.slice none 0 0) ([] : List (List Int))), (SR.nil : SR F5 (.slice none 0 0) ([] : List (List Int))), (by first | exact fun h => absurd (h.symm.trans hv) (by decide) | exact fun _ => ⟨by omega, by omega, fun b hb => e4 b (by omega), fun b hb => e5 b (by omega)⟩), (by first | exact fun _ => ⟨rfl, rfl⟩ | exact fun h => absurd (hv.symm.trans h) (by decide))⟩
 ·
  have c7 := aW
  try simp only [BS] at c7
  have hv := c7
  have vF := vF_of hv
  have hnb := vF.nb
  refine wk_region ?_
  refine wro 1 0 [(0, .o (.agg ⟨[(.int .i64 c.params), (.int .i64 c.regs), (.slice ab c.blocks.length ae)]⟩))] 13 13 [] [(13, (.agg ⟨[(.int .i64 c.params), (.int .i64 c.regs), (.slice ab c.blocks.length ae)]⟩))] (vA (qn 24 0 3 (HS.hc aq (i := 0) rfl) rfl rfl rfl rfl) trivial) (by kernel_rfl) rfl fun _ => ?_
  refine wo_call (ap_call rfl rfl rfl) rfl rfl (mc.analyze_c ex c (HS.call aq) (by omega) (by omega) aB hT (by first | assumption | exact fun j => Nat.le_trans (hins j) (by omega)) (by first | assumption | exact fun j => Nat.le_trans (hins j) (by omega))) ?_
  rintro _ cl ⟨ah, aj, z, ai, ak, A, aR, aX, aw, rfl, al, E, cr⟩
  replace aw := HS.back aq rfl aw
  have aw : HS _ _ _ [_] _ := aw
  refine wro 5 2 [] 15 16 [4, 5, 12] [(4, (.slice ah z.length aj)), (5, (.slice ai A.length ak))] trivial (by kernel_rfl) rfl fun _ => ?_
  refine wo_end 2 rfl ?_
  have an := (by assumption : AnF c _ _)
  have hli := an.li
  have hlo := an.lo
  refine wr 3 [] 1 0 [6, 7] [(6, (.slice none 0 0)), (7, (.slice none 0 0))] trivial (by kernel_rfl) rfl fun _ => ?_
  refine wr 2 [] 17 19 [] [(18, (.int .i64 (z.length : Int))), (19, (.int .i64 0))] trivial (by kernel_rfl) rfl fun _ => ?_
  have aM := HS.snoc aw
  have aM : HS _ _ _ [_, []] _ := aM
  have aN := HS.snoc aM
  have aN : HS _ _ _ [_, _, []] _ := aN
  refine wk_loop_inv (fun (mm : Nat) f H' => ∃ (xs : List (List Int)) (ys : List (List Int)) (k : Nat) (J : Option Addr) (T : Nat) (ag : Fp) (N : Option Addr) (U : Nat) (V : Fp) (F' : Fz), Fz.le aR F' ∧ HS (Base.of H []) F' H' [[(b1, .cells [(.int .i64 c.params), (.int .i64 c.regs), (.slice ab c.blocks.length ae)] none false)], ag, V] R ∧ OS F' (.slice J xs.length T) xs ag ∧ OS F' (.slice N ys.length U) ys V ∧ agrees f [(2, (.slice none 0 0)), (3, (.slice none 0 0)), (4, (.slice ah z.length aj)), (5, (.slice ai A.length ak)), (6, (.slice J xs.length T)), (7, (.slice N ys.length U)), (18, (.int .i64 (z.length : Int))), (19, (.int .i64 (k : Int)))] ∧ mm = c.blocks.length - k ∧ (xs.length = k) ∧ (ys.length = k) ∧ (k ≤ c.blocks.length) ∧ (∀ b, b < k → Lst (xs.getD b default) (LIn c b)) ∧ (∀ b, b < k → Lst (ys.getD b default) (LOut c b))) _ ⟨([] : List (List Int)), ([] : List (List Int)), 0, none, 0, [], none, 0, [], _, (Fz.le_refl _), aN, (OS.nil : OS aR (.slice none 0 0) ([] : List (List Int)) []), (OS.nil : OS aR (.slice none 0 0) ([] : List (List Int)) []), (agC rfl (agC rfl (agC rfl (agC rfl (agC rfl (agC rfl (agC rfl (agC rfl agN)))))))), rfl, (by rfl), (by rfl), (by first | assumption | omega | (simp at *; omega)), (by intro b hb; omega), (by intro b hb; omega)⟩ ?_
  rintro cb cp cm ⟨xs, ys, k, J, T, ag, N, U, V, cc, ar, ao, am, O, a0, rfl, e1, e2, e3, e4, e5⟩ bA
  refine wk_canon _ a0 (fun _ => ?_)
  clear a0
  replace hT := (hT.mono aX).mono ar
  replace al := al.mono ar
  replace E := E.mono ar
  refine wk_foc 1 rfl ?_
  refine wr 2 [] 20 20 [] [(20, (.bool (decide ((k : Int) < (z.length : Int)))))] trivial (by kernel_rfl) rfl fun _ => ?_
  refine wk_if 4 5 (v := (decide ((k : Int) < (z.length : Int)))) rfl rfl rfl rfl (fun aI => ?_) (fun aI => ?_)
  ·
   have aU := aI
   try simp only [BS] at aU
   refine wr 1 [] 21 21 [8] [(8, (.int .i64 (k : Int)))] trivial (by kernel_rfl) rfl fun _ => ?_
   refine wf_region rfl ?_
   refine fm (.slice J xs.length T) rfl rfl rfl ?_
   refine fm (.slice ah z.length aj) rfl rfl rfl ?_
   refine fm (.int .i64 (k : Int)) rfl rfl rfl ?_
   refine wf_pure (v := (.pointer (some ⟨sB (.slice ah z.length aj), sO (.slice ah z.length aj) + k * Rp.sz (List U64), none⟩))) (id := .v) (ap_idxV (α := (List U64)) (j := (k : Int)) rfl rfl rfl rfl (SR.sv al ao.log0) (by omega) (by omega)) rfl rfl (did_v rfl) (okD_v _) ?_
   obtain ⟨b0, bt, bn⟩ := Sv.at (SR.sv al ao.log0) (getD_at (x := default) (show k < z.length from by omega))
   obtain ⟨a6, bg, rfl, bj⟩ := bt
   refine wf_pure (v := (.slice a6 (z.getD k default).length bg)) (id := .l (sB (.slice ah z.length aj))) (ap_ld1 (i := 0) rfl rfl bn rfl rfl) rfl rfl (did_l rfl) (⟨.inl rfl, ⟨.inl rfl, ⟨.inl rfl, ⟨.inr trivial, trivial⟩⟩⟩⟩) ?_
   refine wf_call (W := []) (ap_call rfl rfl rfl) rfl rfl rfl (mb.list_c ex (z.getD k default) (HS.call ao.log0) bj hT (by first | (rw [an.wi k (by omega)]; have := wd_le vF.regs; omega) | (rw [an.wo k (by omega)]; have := wd_le vF.regs; omega))) (⟨.inl rfl, ⟨.inl rfl, ⟨.inl rfl, ⟨.inl rfl, ⟨.inr trivial, trivial⟩⟩⟩⟩⟩) ?_
   rintro _ bJ ⟨az, aF, cv, bQ, cd, au, Y, rfl, be, rfl⟩
   refine ⟨Wr.did Y.log, fun bB a8 => ?_⟩
   replace Y := HS.back ao.log0 rfl Y
   replace Y := HS.lg Y ao a8
   generalize ({ bJ with log := bB } : Heap) = bU at Y ⊢
   have Y : HS _ _ _ [_, ag, V, bQ] _ := Y
   obtain ⟨ce, av, aD, bu, b7⟩ := OS.frz be Y (i := 3) rfl
   have aD : HS _ _ _ [_, _, _, []] _ := aD
   replace hT := (hT.mono au).mono av
   replace E := (E.mono au).mono av
   replace am := (am.mono au).mono av
   refine wf_rs (id := .a) (rs_lit (α := (List Int)) (ps := [(0, (.slice az (lstV (z.getD k default)).length aF))]) (cells := [(.slice az (lstV (z.getD k default)).length aF)]) ([lstV (z.getD k default)] : List (List Int)) aD.log0 rfl rfl rfl (by kernel_rfl) ⟨[(.slice az (lstV (z.getD k default)).length aF)], [], rfl, ⟨az, aF, rfl, bu⟩, rfl⟩ rfl) rfl rfl (fun _ _ _ _ => did_a rfl rfl rfl) (⟨.inl rfl, ⟨.inl rfl, ⟨.inl rfl, ⟨.inl rfl, ⟨.inl rfl, ⟨.inr trivial, trivial⟩⟩⟩⟩⟩⟩) ?_
   rintro _ bK bR ⟨cn, ct, rfl, bp, Z, _⟩ bC a9
   replace Z := HS.lg Z aD a9
   generalize ({ bK with log := bC } : Heap) = bV at Z ⊢
   have Z : HS _ _ _ [_, _, _, _, bR] _ := Z
   refine wf_rs (id := .x (ag.map Prod.fst)) (rs_app (α := (List Int)) (q := 1) am Z.log0 rfl rfl rfl (OS.sv bp Z.log0 (i := 4) rfl) rfl rfl rfl rfl rfl rfl rfl (by first | omega | (simp only [List.length_append, List.length_cons, List.length_nil]; omega))) rfl rfl (by rintro _ _ a4 ⟨aS, a2, rfl, aC, _, hwr⟩; exact did_x rfl rfl (Wr.did hwr)) (⟨.inl rfl, ⟨.inl rfl, ⟨.inl rfl, ⟨.inl rfl, ⟨.inl rfl, ⟨.inl rfl, ⟨.inl rfl, trivial⟩⟩⟩⟩⟩⟩⟩) ?_
   rintro _ bL a4 ⟨aS, a2, rfl, aC, I, _⟩ bD ba
   replace I := HS.lg I Z ba
   generalize ({ bL with log := bD } : Heap) = bW at I ⊢
   have I : HS _ _ _ [_, a4, _, _, _] _ := I
   refine fm (.slice N ys.length U) rfl rfl rfl ?_
   refine fm (.slice ai A.length ak) rfl rfl rfl ?_
   refine fm (.int .i64 (k : Int)) rfl rfl rfl ?_
   refine wf_pure (v := (.pointer (some ⟨sB (.slice ai A.length ak), sO (.slice ai A.length ak) + k * Rp.sz (List U64), none⟩))) (id := .v) (ap_idxV (α := (List U64)) (j := (k : Int)) rfl rfl rfl rfl (SR.sv E I.log0) (by omega) (by omega)) rfl rfl (did_v rfl) (okD_v _) ?_
   obtain ⟨b2, bw, bo⟩ := Sv.at (SR.sv E I.log0) (getD_at (x := default) (show k < A.length from by omega))
   obtain ⟨a7, bh, rfl, bk⟩ := bw
   refine wf_pure (v := (.slice a7 (A.getD k default).length bh)) (id := .l (sB (.slice ai A.length ak))) (ap_ld1 (i := 0) rfl rfl bo rfl rfl) rfl rfl (did_l rfl) (⟨.inl rfl, ⟨.inl rfl, ⟨.inl rfl, ⟨.inr trivial, ⟨.inr (SR.nin E Z (i := 1) rfl (show k < A.length from by omega)), ⟨.inr trivial, ⟨.inr List.not_mem_nil, ⟨.inr trivial, ⟨.inr trivial, ⟨.inr trivial, ⟨.inr trivial, ⟨.inr trivial, trivial⟩⟩⟩⟩⟩⟩⟩⟩⟩⟩⟩⟩) ?_
   refine wf_call (W := []) (ap_call rfl rfl rfl) rfl rfl rfl (mb.list_c ex (A.getD k default) (HS.call I.log0) bk hT (by first | (rw [an.wi k (by omega)]; have := wd_le vF.regs; omega) | (rw [an.wo k (by omega)]; have := wd_le vF.regs; omega))) (⟨.inl rfl, ⟨.inl rfl, ⟨.inl rfl, ⟨.inl rfl, ⟨.inr trivial, ⟨.inl rfl, ⟨.inl rfl, ⟨.inl rfl, ⟨.inl rfl, ⟨.inl rfl, ⟨.inl rfl, ⟨.inl rfl, ⟨.inl rfl, trivial⟩⟩⟩⟩⟩⟩⟩⟩⟩⟩⟩⟩⟩) ?_
   rintro _ bM ⟨aA, aG, cw, bS, cg, aJ, aa, rfl, bf, rfl⟩
   refine ⟨Wr.did aa.log, fun bE bb => ?_⟩
   replace aa := HS.back I.log0 rfl aa
   replace aa := HS.lg aa I bb
   generalize ({ bM with log := bE } : Heap) = bX at aa ⊢
   have aa : HS _ _ _ [_, _, _, _, _, bS] _ := aa
   obtain ⟨ch, aK, aE, bx, b8⟩ := OS.frz bf aa (i := 5) rfl
   have aE : HS _ _ _ [_, _, _, _, _, []] _ := aE
   replace aC := (aC.mono aJ).mono aK
   replace O := (((O.mono au).mono av).mono aJ).mono aK
   refine wf_rs (id := .a) (rs_lit (α := (List Int)) (ps := [(0, (.slice aA (lstV (A.getD k default)).length aG))]) (cells := [(.slice aA (lstV (A.getD k default)).length aG)]) ([lstV (A.getD k default)] : List (List Int)) aE.log0 rfl rfl rfl (by kernel_rfl) ⟨[(.slice aA (lstV (A.getD k default)).length aG)], [], rfl, ⟨aA, aG, rfl, bx⟩, rfl⟩ rfl) rfl rfl (fun _ _ _ _ => did_a rfl rfl rfl) (⟨.inl rfl, ⟨.inl rfl, ⟨.inl rfl, ⟨.inl rfl, ⟨.inl rfl, ⟨.inr trivial, ⟨.inl rfl, ⟨.inl rfl, ⟨.inl rfl, ⟨.inl rfl, ⟨.inl rfl, ⟨.inl rfl, ⟨.inl rfl, ⟨.inl rfl, trivial⟩⟩⟩⟩⟩⟩⟩⟩⟩⟩⟩⟩⟩⟩) ?_
   rintro _ bN bT ⟨co, cu, rfl, br, ad, _⟩ bF bc
   replace ad := HS.lg ad aE bc
   generalize ({ bN with log := bF } : Heap) = bY at ad ⊢
   have ad : HS _ _ _ [_, _, _, _, _, _, bT] _ := ad
   refine wf_rs (id := .x (V.map Prod.fst)) (rs_app (α := (List Int)) (q := 2) O ad.log0 rfl rfl rfl (OS.sv br ad.log0 (i := 6) rfl) rfl rfl rfl rfl rfl rfl rfl (by first | omega | (simp only [List.length_append, List.length_cons, List.length_nil]; omega))) rfl rfl (by rintro _ _ a5 ⟨aT, a3, rfl, a1, _, hwr⟩; exact did_x rfl rfl (Wr.did hwr)) (⟨.inl rfl, ⟨.inl rfl, ⟨.inl rfl, ⟨.inl rfl, ⟨.inl rfl, ⟨.inl rfl, ⟨.inl rfl, ⟨.inl rfl, ⟨.inl rfl, ⟨.inl rfl, ⟨.inl rfl, ⟨.inl rfl, ⟨.inl rfl, ⟨.inl rfl, ⟨.inl rfl, trivial⟩⟩⟩⟩⟩⟩⟩⟩⟩⟩⟩⟩⟩⟩⟩) ?_
   rintro _ bO a5 ⟨aT, a3, rfl, a1, ap, _⟩ bG bd
   replace ap := HS.lg ap ad bd
   generalize ({ bO with log := bG } : Heap) = bZ at ap ⊢
   have ap : HS _ _ _ [_, _, a5, _, _, _, _] _ := ap
   refine fa (.slice aS (xs ++ ([lstV (z.getD k default)] : List (List Int))).length a2) rfl rfl rfl ?_
   refine fa (.slice aT (ys ++ ([lstV (A.getD k default)] : List (List Int))).length a3) rfl rfl rfl ?_
   refine wf_nil ?_
   refine wk_foc 2 rfl ?_
   refine wr 1 [] 19 19 [38] [(19, (.int .i64 ((k : Int) + 1)))] (vA (vi (n := (k : Int) + 1) (by omega)) trivial) (by kernel_rfl) rfl fun _ => ?_
   refine bA _ _ _ ?_ ⟨xs ++ ([lstV (z.getD k default)] : List (List Int)), ys ++ ([lstV (A.getD k default)] : List (List Int)), k + 1, aS, a2, a4, aT, a3, a5, _, (Fz.le_trans (Fz.le_trans (Fz.le_trans (Fz.le_trans (ar) au) av) aJ) aK), (HS.sub ap (List.sublist_append_left _ _)), aC, a1, (agC rfl (agC rfl (agC rfl (agC rfl (agC rfl (agC rfl (agC rfl (agC rfl agN)))))))), rfl, (by simp; omega), (by simp; omega), (by first | assumption | omega | (simp at *; omega)), (by exact lst_snoc e1 e4 (lst_of (an.hi k))), (by exact lst_snoc e2 e5 (lst_of (an.ho k (by omega))))⟩
   omega
  ·
   have aU := aI
   try simp only [BS] at aU
   refine wr 1 [] 2 3 [39, 40] [(2, (.slice J xs.length T)), (3, (.slice N ys.length U))] trivial (by kernel_rfl) rfl fun _ => ?_
   obtain ⟨ci, aY, aO, aL, b9⟩ := OS.frz am ao (i := 1) rfl
   have aO : HS _ _ _ [_, _, V] _ := aO
   replace O := O.mono aY
   obtain ⟨cj, aZ, aP, bz, ca⟩ := OS.frz O aO (i := 2) rfl
   have aP : HS _ _ _ [_, _, []] _ := aP
   replace aL := aL.mono aZ
   refine wk_ret ⟨.inr rfl, _, rfl, J, T, xs, N, U, ys, _, (Fz.le_trans (Fz.le_trans (Fz.le_trans (Fz.le_trans (aQ) aX) ar) aY) aZ), (HS.forget aP), rfl, aL, bz, (by first | exact fun h => absurd (h.symm.trans hv) (by decide) | exact fun _ => ⟨by omega, by omega, fun b hb => e4 b (by omega), fun b hb => e5 b (by omega)⟩), (by first | exact fun _ => ⟨rfl, rfl⟩ | exact fun h => absurd (hv.symm.trans h) (by decide))⟩
end Go.Proofs.YtlabedbmgmfbaaaDoor.md
