/-
 The law that the allocator rejects just the functions in which a register may be read before it is written, by a symbolic run. No condition but that the table lies as laid.
-/
import Derived.Test.YtknafdcgpaejlaaDoorZUNG
import Derived.Test.YtknafdcgpaejlaaDoorZURC
noncomputable section
namespace Go.Proofs.YtknafdcgpaejlaaDoor.nu
open Go.R
set_option maxRecDepth 10000
set_option linter.unusedVariables false
set_option linter.unusedSimpArgs false
variable (ex : FuncId) {F : Fz} {H : Heap} {R : List Fp}
open m1 m2 m3 m4 m5 m6 ma ml mb mc md mf mg mh mi mj na nb nc ng
theorem rd_13 {v : VInT} (h : v.i.op = 13 ∨ v.i.op = 38) : az v = [] ∧ ab v = [v.i.a] := by
 unfold az ab gI
 rcases h with h | h <;> rw [h] <;> exact ⟨rfl, rfl⟩
theorem tr_fst {S : Nat → Prop} {r : Nat} : ∀ {l : List VInT} {n : Nat}, (∀ q, q < l.length → (l.getD q default).i.a = ((n + q : Nat) : Int) ∧ ((l.getD q default).i.op = 13 ∨ (l.getD q default).i.op = 38)) → tr l S r → S r ∧ ¬ (n ≤ r ∧ r < n + l.length)
 | [], n, _, h => ⟨h, fun A => by simp only [a0e] at A; omega⟩
 | v :: l, n, hf, h => by
  have E := hf 0 (by simp)
  obtain ⟨N, T⟩ := rd_13 (v := v) E.2
  rcases h with h | ⟨h, A⟩
  ·
   rw [N] at h; cases h
  have J := tr_fst (l := l) (n := n + 1) (fun q hq => by
   have U := hf (q + 1) (by simp; omega)
   rw [show n + 1 + q = n + (q + 1) by omega]; exact U) h
  rw [T, a0d] at A
  refine ⟨J.1, fun V => J.2 ?_⟩
  have Z : v.i.a = ((n + 0 : Nat) : Int) := E.1
  rw [a0a] at V
  omega
theorem vf_in {c : VFnT} {n : Int} (h : vfG c n) (r : Nat) : ¬ ptS c 0 0 r := fun hp => by
 have v := iE h.val
 have J := gX v (b := 0) (i := 0) (by have := v.nb; omega) hp
 obtain ⟨fi, e, hl, hf⟩ := h.fst
 have A : bA c 0 = ⟨fi, 1, 0, 1, 0⟩ := e
 unfold ptS at hp
 rw [A] at hp
 have E := (tr_fst (n := 0) (fun q hq => by rw [a1o]; exact hf q hq) hp).2
 apply E
 show 0 ≤ r ∧ r < 0 + fi.length
 omega
def dropB (c : VFnT) (k : Nat) : List BlkT := c.blocks.set 0 ⟨(bA c 0).ins.take k ++ (bA c 0).ins.drop (k + 1), (bA c 0).fin, (bA c 0).reg, (bA c 0).tgt, (bA c 0).els⟩
theorem io {c : VFnT} {k : Nat} : (dropB c k).length = c.blocks.length := a0h
theorem drop_val {c : VFnT} {n : Int} (h : vfG c n) (k : Nat) : d6 ⟨c.params, c.regs, dropB c k⟩ = true := by
 have v := iE h.val
 have hv := h.val
 unfold d6 at hv
 rw [a0b] at hv
 have hb : 0 < c.blocks.length := by have := v.nb; omega
 have A : jN c.params c.regs (c.blocks.length : Int) (bA c 0) = true := all_at hv.2 hb
 refine val_mk (n := (c.blocks.length : Int)) ⟨v.params.1, v.params.2, v.regs.1, v.regs.2, by rw [io]; exact v.nb.1, by rw [io]; exact v.nb.2⟩ (by rw [io]) (a0p.2 fun y hy => ?_)
 rcases List.mem_or_eq_of_mem_set hy with hy | rfl
 ·
  exact a0p.1 hv.2 y hy
 unfold jN at A ⊢
 rw [a0b] at A ⊢
 refine ⟨a0p.2 fun z hz => a0p.1 A.1 z ?_, A.2⟩
 rcases a04.1 hz with hz | hz
 ·
  exact a17 hz
 exact a1E hz
theorem drop_ins {c : VFnT} {n : Int} (h : vfG c n) (k j : Nat) : ((dropB c k).getD j default).ins.length ≤ 22 := by
 unfold dropB
 rw [df]
 have A : (bA c 0).ins.length ≤ 11 := h.ins 0
 split
 ·
  show ((bA c 0).ins.take k ++ (bA c 0).ins.drop (k + 1)).length ≤ 22
  rw [a05, a0g, a0o]; omega
 exact a0c (h.ins j) (by omega)
theorem ex_c (_ : FuncId) (hs : HS (.of H []) F H [] R) (hT : TB 37 tabC F) : C Tryd.prog 1 (KT 60 15 37 tabC) 15 [] H fun v H' => ∃ (r : Bool), H' = H ∧ v = .bool r ∧ r = true :=
 ⟨0, .bool true, H, by unfold call jj; rw [(hT.heap hs).known (by decide)], true, rfl, rfl, rfl⟩
theorem ex_c_q (e : FuncId) (hs : HS (.of H []) F H [] R) (hT : TB 37 tabC F) : C Tryd.prog 1 (KT 60 15 37 tabC) 15 [] H fun v H' => v = .bool true ∧ H' = H := cq (ex_c e hs hT) (by rintro _ _ ⟨_, rfl, rfl, rfl⟩; exact ⟨rfl, rfl⟩)
set_option maxHeartbeats 4000000 in
theorem uninit_law {a_l : Option Addr} {k_l : Nat} (l : List Int) (params : Int) (drop : Int) (hs : HS (.of H []) F H [] R) (hl : SR F (.slice a_l l.length k_l) l) (hparams : in64 params) (hdrop : in64 drop) (hT : TB 37 tabC F) : C Tryd.prog 1 (KT 60 15 37 tabC) 8 [(.slice a_l l.length k_l), (iI params), (iI drop)] H fun v H' => ∃ (r : Bool) (F' : Fz), Fz.le F F' ∧ HS (.of H []) F' H' [] R ∧ v = .bool r ∧ r = true := by
 refine aH Tryd.func8 rfl rfl (ah 1 rfl (wT 2 [] 6 6 [] [(6, (.bool false))] rfl fun _ => aS rfl (fm (.slice a_l l.length k_l) rfl rfl rfl (fm (.slice a_l l.length k_l) rfl rfl rfl ?_))))
 refine aF (v := (iI (l.length : Int))) (id := .v) (jd (α := Int) rfl rfl (SR.sv hl hs.log0)) rfl rfl (i4 rfl) (j6 _) (aF (v := (iI (if (36 : Int) < (l.length : Int) then (36 : Int) else (l.length : Int)))) (id := .x []) (pmm_ok (w := true) rfl rfl rfl) rfl rfl (bQ (W := []) rfl rfl fun b hb => absurd hb a0i) (kb rfl) (bM (id := .q fun b => F b ≠ none) (j3 (α := Int) (j := (if (36 : Int) < (l.length : Int) then (36 : Int) else (l.length : Int)).toNat) hl hs.log0 rfl rfl rfl (optN (by omega)) (by omega)) rfl rfl (by rintro _ _ _ ⟨_, _, _, hH, _⟩; exact did_q rfl (SR.q hl)) (kb rfl) ?_))
 rintro _ _ _ ⟨a2, k2, rfl, ds, iv⟩ iz hp
 simp only at ds; replace ds := ds.symm; subst ds
 have e4 := HS.lg hs.log0 hs hp
 generalize ({ { H with log := [] } with log := iz } : Heap) = h4 at e4 ⊢
 refine fm (iI params) rfl rfl rfl ?_
 have lI := ew params (3 : Int)
 refine bY (W := []) (aq rfl rfl rfl) rfl rfl rfl (m1.pick_c 15 params (3) _ (by omega)) (⟨.inl rfl, ⟨.inr (fun b hb => absurd hb a0i), ⟨.inr ⟨trivial, trivial⟩, ⟨.inr trivial, ⟨.inr trivial, ⟨.inr trivial, trivial⟩⟩⟩⟩⟩⟩) ?_
 rintro _ _ ⟨r4, rfl, rfl, rfl⟩
 refine ⟨fun b hb => absurd hb a0i, fun i1 hq => ?_⟩
 have dt := HS.lg e4.log0 e4 hq
 generalize ({ { h4 with log := [] } with log := i1 } : Heap) = lA at dt ⊢
 refine bY (W := []) (aq rfl rfl rfl) rfl rfl rfl (m5.vf_c 15 (l.take (if (36 : Int) < (l.length : Int) then (36 : Int) else (l.length : Int)).toNat) (bB params (3 : Int)) (HS.call dt.log0) iv hT (by omega) (by (rw [a0g]; exact a0c (Nat.min_le_left _ _) (by split <;> omega)))) (kb rfl) ?_
 rintro _ H5 ⟨A, E, J, F5, dn, an, rfl, il, it, T, h5⟩
 refine ⟨Wr.did an.log, fun i2 ht => ?_⟩
 replace an := HS.back dt.log0 rfl an
 replace an := HS.lg an dt ht
 generalize ({ H5 with log := i2 } : Heap) = lD at an ⊢
 have an : HS _ _ _ [] _ := an
 replace hl := hl.mono dn
 refine bM (id := .a) (bp an.log0 rfl) rfl rfl (fun _ _ _ _ => gZ rfl rfl rfl) (kb rfl) ?_
 rintro _ H7 _ ⟨b6, rfl, a9, _⟩ i3 hu
 replace a9 := HS.lg a9 an hu
 generalize ({ H7 with log := i3 } : Heap) = lE at a9 ⊢
 have a9 : HS _ _ _ [[(b6, .cells [(iI 0), (iI 0), (.slice none 0 0)] none false)]] _ := a9
 refine eN (id := .x [b6]) (aI (q := 0) a9.log0 rfl rfl rfl rfl rfl rfl rfl rfl rfl) rfl (by rintro _ _ _ ⟨_, hwr⟩; exact bQ rfl rfl (Wr.did hwr)) (kb rfl) ?_
 rintro _ H8 _ ⟨bb, _⟩ ja hv
 replace bb := HS.lg bb a9 hv
 generalize ({ H8 with log := ja } : Heap) = lF at bb ⊢
 let f1 : Fp := [(b6, .cells [(iI A.params), (iI A.regs), (.slice E A.blocks.length J)] none false)]
 have bb : HS _ _ _ [f1] _ := bb
 refine bT (ah 2 rfl ?_)
 have hG : vfG A (bB params 3) := by assumption
 have hins := hG.ins
 have vF := iE hG.val
 have hnb := vF.nb
 have hrg := hG.reg
 have hpar := hG.par
 have hpp := ew params 3 (by omega)
 have lJ := hins 0
 have hil : 1 ≤ (A.blocks.getD 0 default).ins.length := by (obtain ⟨fi, e, hl, _⟩ := hG.fst; rw [e]; show 1 ≤ fi.length; omega)
 have hpd := ew drop (((A.blocks.getD 0 default).ins.length : Nat) : Int) (by omega)
 let em : Value := (.agg ⟨[(iI A.params), (iI A.regs), (.slice E A.blocks.length J)]⟩)
 refine aa (wUo 1 0 [(0, .o em)] 25 25 [] [(25, em)] (qn 24 0 3 (HS.hc bb (i := 0) rfl) rfl rfl rfl rfl) rfl fun _ => aG (bp bb rfl) rfl rfl ?_)
 rintro _ ln _ ⟨a1, rfl, (hD : HS _ _ _ [_, [(a1, .cells [(iI 0), (iI 0), (.slice none 0 0)] none false)]] _), _⟩
 refine aN (aI (q := 1) hD rfl rfl rfl rfl rfl rfl rfl rfl rfl) rfl ?_
 rintro _ lp _ ⟨(e3 : HS _ _ _ [_, [(a1, .cells [(iI A.params), (iI A.regs), (.slice E A.blocks.length J)] none false)]] _), _⟩
 refine ae 2 rfl (aa (wUo 2 0 [(1, .o (.slice E A.blocks.length J))] 26 27 [] [(27, (.slice E A.blocks.length J))] (ql 22 2 (HS.hc e3 (i := 0) rfl) rfl rfl) rfl fun _ => ?_))
 have b7 := HS.snoc e3
 have b7 : HS _ _ _ [_, _, []] _ := b7
 refine aG (bw (α := BlkT) (q := 2) (OS.nil : OS F5 (.slice none 0 0) ([] : List BlkT) []) b7 rfl rfl rfl (SR.sv T b7) rfl rfl rfl rfl rfl rfl rfl (by (simp only [a05, a0a, a0e, a0g, a0o]; omega))) rfl rfl ?_
 rintro _ lq f0 ⟨ag, ar, rfl, aw, (hE : HS _ _ _ [_, _, f0] _), _⟩
 have aw : OS F5 (.slice ag A.blocks.length ar) A.blocks f0 := aw
 refine wTo 1 3 [] 29 29 [] [(29, (.pointer (some ⟨a1, 2, none⟩)))] rfl fun _ => aN (aI (q := 1) hE rfl rfl rfl rfl rfl rfl rfl rfl rfl) rfl ?_
 rintro _ g3 _ ⟨(V : HS _ _ _ [_, [(a1, .cells [(iI A.params), (iI A.regs), (.slice ag A.blocks.length ar)] none false)], _] _), _⟩
 refine ae 2 rfl ?_
 obtain ⟨ez, e6⟩ := Sv.view (SR.sv T V)
 obtain ⟨kc, kd, kg, ki, kR⟩ := BlkT.fx (e6 0)
 have k4 := ew drop ((A.blocks.getD 0 default).ins.length : Int)
 refine wR 2 [(2, .o (.slice E A.blocks.length J)), (5, .o (.slice (cA (ez 0) 0) (A.blocks.getD 0 default).ins.length (cK (ez 0) 0))), (7, .o (iI (bB drop ((A.blocks.getD 0 default).ins.length : Int))))] 30 37 [9] [(9, (iI (bB drop ((A.blocks.getD 0 default).ins.length : Int))))] (vA (ql 22 2 (HS.hc V (i := 0) rfl) rfl rfl) (vA (Sv.ix (j := 0) (SR.sv T V) (by decide) (by omega)) (vA (ql 46 0 (BlkT.vw (e6 0) (by omega)) rfl rfl) (vA (m1.ie 15 drop ((A.blocks.getD 0 default).ins.length : Int) g3 (by omega)) trivial)))) rfl fun _ => aS rfl (wfv (v := (.pointer (some ⟨a1, 2, none⟩))) (bn rfl rfl) (aF (v := (.slice ag A.blocks.length ar)) (id := .l a1) (aU (i := 2) rfl rfl (HS.hc V.log0 (i := 1) rfl) rfl rfl) rfl rfl (bx rfl) (kb rfl) (wfv (v := (.pointer (some ⟨b6, 2, none⟩))) (bn rfl rfl) (aF (v := (.slice E A.blocks.length J)) (id := .l b6) (aU (i := 2) rfl rfl (HS.hc V.log0 (i := 0) rfl) rfl rfl) rfl rfl (bx rfl) (kb rfl) ?_))))
 refine wfv (v := (.pointer (some ⟨sB (.slice E A.blocks.length J), sO (.slice E A.blocks.length J) + 0 * Rp.sz BlkT, none⟩))) (bh (α := BlkT) (j := 0) rfl rfl rfl rfl (SR.sv T V.log0) (by decide) (by omega)) (wfv (v := (.pointer (some ⟨sB (.slice E A.blocks.length J), sO (.slice E A.blocks.length J) + 0 * Rp.sz BlkT, none⟩))) (bn rfl rfl) ?_)
 obtain ⟨kZ, hA, hm⟩ := Sv.at (SR.sv T V.log0) (aM (x := default) (show 0 < A.blocks.length from by omega))
 obtain ⟨f2, f9, rfl, kk, kl, kn, ko, d2⟩ := hA
 refine aF (v := (.slice f2 (A.blocks.getD 0 default).ins.length f9)) (id := .l (sB (.slice E A.blocks.length J))) (aU (i := 0) rfl rfl hm rfl rfl) rfl rfl (bx rfl) (kb rfl) (fm (iI (bB drop ((A.blocks.getD 0 default).ins.length : Int))) rfl rfl rfl (bM (id := .q fun b => F5 b ≠ none) (j3 (α := VInT) (j := (bB drop ((A.blocks.getD 0 default).ins.length : Int)).toNat) d2 V.log0 rfl rfl rfl (optN (by omega)) (by omega)) rfl rfl (by rintro _ _ _ ⟨_, _, _, hH, _⟩; exact did_q rfl (SR.q d2)) (kb rfl) ?_))
 rintro _ _ _ ⟨lG, lK, rfl, b1, hw⟩ hM f4
 simp only at b1; replace b1 := b1.symm; subst b1
 have e5 := HS.lg V.log0 V f4
 generalize ({ { g3 with log := [] } with log := hM } : Heap) = kS at e5 ⊢
 have a6 := HS.snoc e5
 have a6 : HS _ _ _ [_, _, _, []] _ := a6
 refine bM (id := .x []) (bw (α := VInT) (q := 3) (OS.nil : OS F5 (.slice none 0 0) ([] : List VInT) []) a6.log0 rfl rfl rfl (SR.sv hw a6.log0) rfl rfl rfl rfl rfl rfl rfl (by (simp only [a05, a0a, a0e, a0g, a0o]; omega))) rfl rfl (by rintro _ _ dv ⟨g4, ha, rfl, b3, _, hwr⟩; exact bQ rfl rfl (Wr.did hwr)) (⟨.inl rfl, ⟨.inl rfl, ⟨.inl rfl, ⟨.inl rfl, ⟨.inl rfl, ⟨.inl rfl, ⟨.inl rfl, ⟨.inr a0i, ⟨.inr trivial, trivial⟩⟩⟩⟩⟩⟩⟩⟩⟩) ?_
 rintro _ h3 dv ⟨g4, ha, rfl, b3, U, _⟩ hQ f5
 replace U := HS.lg U a6 f5
 generalize ({ h3 with log := hQ } : Heap) = hh at U ⊢
 have U : HS _ _ _ [_, _, _, dv] _ := U
 have b3 : OS F5 (.slice g4 ((A.blocks.getD 0 default).ins.take (bB drop ((A.blocks.getD 0 default).ins.length : Int)).toNat).length ha) ((A.blocks.getD 0 default).ins.take (bB drop ((A.blocks.getD 0 default).ins.length : Int)).toNat) dv := b3
 refine wfv (v := (.pointer (some ⟨b6, 2, none⟩))) (bn rfl rfl) (aF (v := (.slice E A.blocks.length J)) (id := .l b6) (aU (i := 2) rfl rfl (HS.hc U.log0 (i := 0) rfl) rfl rfl) rfl rfl (bx rfl) (⟨.inl rfl, ⟨.inr a0i, ⟨.inr trivial, ⟨.inr trivial, ⟨.inr trivial, ⟨.inr trivial, ⟨.inr trivial, ⟨.inr trivial, ⟨.inr trivial, ⟨.inr trivial, ⟨.inr trivial, trivial⟩⟩⟩⟩⟩⟩⟩⟩⟩⟩⟩) (wfv (v := (.pointer (some ⟨sB (.slice E A.blocks.length J), sO (.slice E A.blocks.length J) + 0 * Rp.sz BlkT, none⟩))) (bh (α := BlkT) (j := 0) rfl rfl rfl rfl (SR.sv T U.log0) (by decide) (by omega)) (wfv (v := (.pointer (some ⟨sB (.slice E A.blocks.length J), sO (.slice E A.blocks.length J) + 0 * Rp.sz BlkT, none⟩))) (bn rfl rfl) ?_)))
 obtain ⟨k0, hB, hn⟩ := Sv.at (SR.sv T U.log0) (aM (x := default) (show 0 < A.blocks.length from by omega))
 obtain ⟨f3, go, rfl, kr, kx, ky, kz, ea⟩ := hB
 refine aF (v := (.slice f3 (A.blocks.getD 0 default).ins.length go)) (id := .l (sB (.slice E A.blocks.length J))) (aU (i := 0) rfl rfl hn rfl rfl) rfl rfl (bx rfl) (⟨.inl rfl, ⟨.inl rfl, ⟨.inl rfl, ⟨.inl rfl, ⟨.inr a0i, ⟨.inr trivial, ⟨.inr trivial, ⟨.inr trivial, ⟨.inr trivial, ⟨.inr trivial, ⟨.inr trivial, ⟨.inr trivial, ⟨.inr trivial, ⟨.inr trivial, trivial⟩⟩⟩⟩⟩⟩⟩⟩⟩⟩⟩⟩⟩⟩) (fm (iI (bB drop ((A.blocks.getD 0 default).ins.length : Int))) rfl rfl rfl (wfv (v := (iI ((bB drop ((A.blocks.getD 0 default).ins.length : Int)) + 1))) (jQ rfl rfl (jT (n := (bB drop ((A.blocks.getD 0 default).ins.length : Int)) + 1) (by omega))) (bM (id := .q fun b => F5 b ≠ none) (rs_cutd (α := VInT) (i := ((bB drop ((A.blocks.getD 0 default).ins.length : Int)) + 1).toNat) ea U.log0 rfl rfl rfl (optN (by omega)) (by omega)) rfl rfl (by rintro _ _ _ ⟨_, _, _, hH, _⟩; exact did_q rfl (SR.q ea)) (⟨.inl rfl, ⟨.inl rfl, ⟨.inl rfl, ⟨.inl rfl, ⟨.inl rfl, ⟨.inl rfl, ⟨.inl rfl, ⟨.inr (fun b hb => absurd hb a0i), ⟨.inr trivial, ⟨.inr trivial, ⟨.inr trivial, ⟨.inr trivial, ⟨.inr trivial, ⟨.inr trivial, ⟨.inr trivial, ⟨.inr trivial, ⟨.inr trivial, trivial⟩⟩⟩⟩⟩⟩⟩⟩⟩⟩⟩⟩⟩⟩⟩⟩⟩) ?_)))
 rintro _ _ _ ⟨lH, lL, rfl, b2, hz⟩ hR f6
 simp only at b2; replace b2 := b2.symm; subst b2
 have a7 := HS.lg U.log0 U f6
 generalize ({ { hh with log := [] } with log := hR } : Heap) = kT at a7 ⊢
 refine bM (id := .x (dv.map Prod.fst)) (bw (α := VInT) (q := 3) b3 a7.log0 rfl rfl rfl (SR.sv hz a7.log0) rfl rfl rfl rfl rfl rfl rfl (by (simp only [a05, a0a, a0e, a0g, a0o]; omega))) rfl rfl (by rintro _ _ hf ⟨g5, he, rfl, e2, _, hwr⟩; exact bQ rfl rfl (Wr.did hwr)) (⟨.inl rfl, ⟨.inl rfl, ⟨.inl rfl, ⟨.inl rfl, ⟨.inl rfl, ⟨.inl rfl, ⟨.inl rfl, ⟨.inl rfl, ⟨.inl rfl, ⟨.inl rfl, ⟨.inl rfl, ⟨.inl rfl, ⟨.inl rfl, ⟨.inl rfl, ⟨.inl rfl, ⟨.inl rfl, ⟨.inr (HS.nin a7 (i := 1) (j := 3) rfl rfl (by decide) (List.Mem.head _)), ⟨.inr trivial, trivial⟩⟩⟩⟩⟩⟩⟩⟩⟩⟩⟩⟩⟩⟩⟩⟩⟩⟩) ?_
 rintro _ h6 hf ⟨g5, he, rfl, e2, av, _⟩ hS f7
 replace av := HS.lg av a7 f7
 generalize ({ h6 with log := hS } : Heap) = kU at av ⊢
 have av : HS _ _ _ [_, _, _, hf] _ := av
 refine wfv (v := (.pointer (some ⟨sB (.slice ag A.blocks.length ar), sO (.slice ag A.blocks.length ar) + 0 * Rp.sz BlkT, none⟩))) (bh (α := BlkT) (j := 0) rfl rfl rfl rfl (OS.sv aw av.log0 (i := 2) rfl) (by decide) (by omega)) (wfv (v := (.pointer (some ⟨sB (.slice ag A.blocks.length ar), sO (.slice ag A.blocks.length ar) + 0 * Rp.sz BlkT, none⟩))) (bn rfl rfl) ?_)
 obtain ⟨g2, a3, b9, hC, lc⟩ := OS.frz e2 av (i := 3) rfl
 have b9 : HS _ _ _ [_, _, _, []] _ := b9
 replace aw := aw.mono a3
 refine eN (id := .x (f0.map Prod.fst)) (db (α := BlkT) (j := 0) (off := 0) (q := 2) (⟨((A.blocks.getD 0 default).ins.take (bB drop ((A.blocks.getD 0 default).ins.length : Int)).toNat) ++ ((A.blocks.getD 0 default).ins.drop (((bB drop ((A.blocks.getD 0 default).ins.length : Int)) + 1).toNat)), (A.blocks.getD 0 default).fin, (A.blocks.getD 0 default).reg, (A.blocks.getD 0 default).tgt, (A.blocks.getD 0 default).els⟩ : BlkT) aw b9.log0 rfl rfl rfl rfl rfl rfl rfl rfl (aM (x := default) (by omega)) rfl (by rintro cs ⟨lM, lO, rfl, jb, jc, jq, jw, lN⟩; exact ⟨a07 rfl, ⟨g5, he, rfl, jb, jc, jq, jw, hC⟩⟩)) rfl (by rintro _ _ d1 ⟨b4, _, hwr⟩; exact bQ rfl rfl (Wr.did hwr)) (kb rfl) ?_
 rintro _ h7 d1 ⟨b4, ad, _⟩ hV f8
 replace ad := HS.lg ad b9 f8
 generalize ({ h7 with log := hV } : Heap) = hj at ad ⊢
 have ad : HS _ _ _ [_, _, d1, _] _ := ad
 have kP := OS.len' b4
 generalize c3 : A.blocks.set 0 (⟨((A.blocks.getD 0 default).ins.take (bB drop ((A.blocks.getD 0 default).ins.length : Int)).toNat) ++ ((A.blocks.getD 0 default).ins.drop (((bB drop ((A.blocks.getD 0 default).ins.length : Int)) + 1).toNat)), (A.blocks.getD 0 default).fin, (A.blocks.getD 0 default).reg, (A.blocks.getD 0 default).tgt, (A.blocks.getD 0 default).els⟩ : BlkT) = N at b4 ⊢
 have ik : N.length = A.blocks.length := by rw [← c3]; exact a0h
 refine bT (ah 2 rfl ?_)
 have e1 : dropB A (bB drop (((A.blocks.getD 0 default).ins.length : Nat) : Int)).toNat = N := by (have e9 : (bB drop (((A.blocks.getD 0 default).ins.length : Nat) : Int) + 1).toNat = (bB drop (((A.blocks.getD 0 default).ins.length : Nat) : Int)).toNat + 1 := (by omega); rw [← c3, e9]; rfl)
 have hdv : d6 (⟨A.params, A.regs, N⟩ : VFnT) = true := e1 ▸ drop_val hG _
 have hdi : ∀ j, (N.getD j default).ins.length ≤ 22 := fun j => e1 ▸ drop_ins hG _ j
 have hdl : N.length = A.blocks.length := by rw [← e1]; exact io
 have h9 : OS g2 (.slice ag N.length ar) N d1 := by rw [hdl]; exact b4
 let hg : Fp := [(a1, .cells [(iI A.params), (iI A.regs), (.slice ag N.length ar)] none false)]
 have ad : HS (Base.of H []) g2 hj [f1, hg, d1, []] R := Eq.mpr (congrArg (fun nn : Nat => HS (Base.of H []) g2 hj [f1, [(a1, .cells [(iI A.params), (iI A.regs), (.slice ag nn ar)] none false)], d1, []] R) hdl) ad
 let es : Value := (.agg ⟨[(iI A.params), (iI A.regs), (.slice ag N.length ar)]⟩)
 refine aa (wUo 1 0 [(0, .o es)] 60 60 [] [(60, es)] (qn 24 0 3 (HS.hc ad (i := 1) rfl) rfl rfl rfl rfl) rfl fun _ => ?_)
 obtain ⟨lh, bz, cc, b5, ld⟩ := OS.frz h9 ad (i := 2) rfl
 have cc : HS _ _ _ [f1, hg, [], []] _ := cc
 replace hT := ((hT.mono dn).mono a3).mono bz
 refine aA (aq rfl rfl rfl) rfl rfl (mi.rblocks_c 15 (⟨A.params, A.regs, N⟩ : VFnT) (HS.call cc) (by omega) (by omega) b5 hT (by exact fun j => a0c (hdi j) (by omega))) ?_
 rintro _ lr ⟨hk, hK, ay, kY, lf, lQ, lj, a4, a8, rfl, a0, kQ, k9, k6⟩
 replace a8 : HS _ _ _ [_, _, _, _] _ := HS.back cc rfl a8
 replace hT := hT.mono a4
 replace T := ((T.mono a3).mono bz).mono a4
 refine wTo 5 2 [] 62 63 [10, 11, 59] [(10, (.slice hk ay.length hK))] rfl fun _ => ae 2 rfl (aa (wUo 1 0 [(0, .o em)] 65 65 [] [(65, em)] (qn 24 0 3 (HS.hc a8 (i := 0) rfl) rfl rfl rfl rfl) rfl fun _ => aA (aq rfl rfl rfl) rfl rfl (ng.alloc_c 15 A (HS.call a8) (by omega) (by omega) T hT (by exact fun j => a0c (hins j) (by omega)) (by exact hG.val) (by omega)) ?_))
 rintro _ lu ⟨be, ch, c4, ci, c5, al, ll, a5, dd, rfl, hW, hY, h0, la, k7⟩
 replace dd : HS _ _ _ [_, _, _, _] _ := HS.back a8 rfl dd
 replace hT := hT.mono a5
 replace b5 := (b5.mono a4).mono a5
 refine wTo 3 2 [] 67 68 [64] [(67, (.agg ⟨[(.slice ch be.locs.length c4), (.slice ci be.spi.length c5), (iI be.slots)]⟩)), (68, (iI al))] rfl fun _ => aG (bp dd rfl) rfl rfl ?_
 rintro _ lv _ ⟨g6, rfl, (hF : HS _ _ _ [_, _, _, _, [(g6, .cells [(.slice none 0 0), (.slice none 0 0), (iI 0)] none false)]] _), _⟩
 refine aN (aI (q := 4) hF rfl rfl rfl rfl rfl rfl rfl rfl rfl) rfl ?_
 rintro _ lw _ ⟨(dk : HS _ _ _ [_, _, _, _, [(g6, .cells [(.slice ch be.locs.length c4), (.slice ci be.spi.length c5), (iI be.slots)] none false)]] _), _⟩
 refine wa (iI al) rfl rfl rfl (ae 2 rfl (aa (wUo 1 0 [(0, .o es)] 70 70 [] [(70, es)] (qn 24 0 3 (HS.hc dk (i := 1) rfl) rfl rfl rfl rfl) rfl fun _ => aA (aq rfl rfl rfl) rfl rfl (ng.alloc_c 15 (⟨A.params, A.regs, N⟩ : VFnT) (HS.call dk) (by (dsimp only; omega)) (by (dsimp only; omega)) b5 hT (by exact fun j => a0c (hdi j) (by omega)) (by exact hdv) (by (dsimp only; omega))) ?_)))
 rintro _ lz ⟨bl, co, c6, c0, c7, Z, lm, b0, dl, rfl, hX, h1, h2, lb, k8⟩
 replace dl : HS _ _ _ [_, _, _, _, _] _ := HS.back dk rfl dl
 replace hT := hT.mono b0
 replace a0 := (a0.mono a5).mono b0
 refine wTo 3 2 [] 72 73 [69] [(72, (.agg ⟨[(.slice co bl.locs.length c6), (.slice c0 bl.spi.length c7), (iI bl.slots)]⟩)), (73, (iI Z))] rfl fun _ => aG (bp dl rfl) rfl rfl ?_
 rintro _ lB _ ⟨g7, rfl, (hI : HS _ _ _ [_, _, _, _, _, [(g7, .cells [(.slice none 0 0), (.slice none 0 0), (iI 0)] none false)]] _), _⟩
 refine aN (aI (q := 5) hI rfl rfl rfl rfl rfl rfl rfl rfl rfl) rfl ?_
 rintro _ lC _ ⟨(ax : HS _ _ _ [_, _, _, _, _, [(g7, .cells [(.slice co bl.locs.length c6), (.slice c0 bl.spi.length c7), (iI bl.slots)] none false)]] _), _⟩
 refine wa (iI Z) rfl rfl rfl (ae 2 rfl ?_)
 have bk : BkF (⟨A.params, A.regs, N⟩ : VFnT) ay _ := (by assumption : d6 (⟨A.params, A.regs, N⟩ : VFnT) = true → BkF (⟨A.params, A.regs, N⟩ : VFnT) ay _) hdv
 have hlx : (ay).length = N.length := bk.lx
 have g9 : Lst ((ay).getD 0 default) (LIn (⟨A.params, A.regs, N⟩ : VFnT) 0) := bk.hx 0 (show 0 < N.length by omega)
 have hpi := fun r => pt_in (c := (⟨A.params, A.regs, N⟩ : VFnT)) (b := 0) (show 0 < N.length by omega) r
 have g8 : al = 0 := ((by assumption : (∀ r, ¬ ptS A 0 0 r) → al = 0 ∧ _) (vf_in hG)).1
 have ih : (∃ r, ptS (⟨A.params, A.regs, N⟩ : VFnT) 0 0 r) → Z = 205 := by assumption
 have ib : (∀ r, ¬ ptS (⟨A.params, A.regs, N⟩ : VFnT) 0 0 r) → Z = 0 := fun h => ((by assumption : (∀ r, ¬ ptS (⟨A.params, A.regs, N⟩ : VFnT) 0 0 r) → Z = 0 ∧ _) h).1
 refine wT 3 [] 1 0 [16] [(16, (iI 0))] rfl fun _ => ?_
 obtain ⟨e0, fd⟩ := Sv.view (SR.sv a0 ax)
 have lP := fL (fd 0)
 refine wR 1 [(2, .o (.slice (cA (e0 0) 0) (ay.getD 0 default).length (cK (e0 0) 0)))] 74 78 [] [(78, (.bool (decide ((0 : Int) < ((ay.getD 0 default).length : Int)))))] (vA (Sv.ix (j := 0) (SR.sv a0 ax) (by decide) (by omega)) (vA (ql 25 0 (vL (fd 0) (by omega)) rfl rfl) trivial)) rfl fun _ => am 0 2 (v := (decide ((0 : Int) < ((ay.getD 0 default).length : Int)))) rfl rfl rfl rfl (fun c9 => ?_) (fun c9 => ?_)
 ·
  have ex := c9
  try simp only [BS] at ex
  have hff : Z = 205 := ih (by (obtain ⟨r, hr⟩ := lst_some g9 (by omega); exact ⟨r, (hpi r).2 hr⟩))
  refine wT 2 [] 1 0 [16] [(16, (iI 205))] rfl fun _ => wU 1 [(8, .o (.bool true))] 79 88 [6] [(6, (.bool (((al == 0) && (Z == 205)) && true)))] (fun (g1 : ((al == 0) && (Z == 205)) = true) => (ex_c_q 15 (HS.call ax) hT)) rfl fun _ => ak ⟨.inr rfl, _, rfl, (((al == 0) && (Z == 205)) && true), _, (fT (fT (fT (fT (fT (dn) a3) bz) a4) a5) b0), (HS.forget ax), rfl, (by simp [g8, hff])⟩
 have ex := c9
 try simp only [BS] at ex
 have hff : Z = 0 := ib (fun r hr => by (have h8 := List.length_pos_of_mem ((g9.mem (r : Int)).2 ⟨by omega, by rw [show ((r : Nat) : Int).toNat = r by omega]; exact (hpi r).1 hr⟩); omega))
 refine wU 1 [(8, .o (.bool true))] 79 88 [6] [(6, (.bool (((al == 0) && (Z == 0)) && true)))] (fun (g1 : ((al == 0) && (Z == 0)) = true) => (ex_c_q 15 (HS.call ax) hT)) rfl fun _ => ak ⟨.inr rfl, _, rfl, (((al == 0) && (Z == 0)) && true), _, (fT (fT (fT (fT (fT (dn) a3) bz) a4) a5) b0), (HS.forget ax), rfl, (by simp [g8, hff])⟩
end Go.Proofs.YtknafdcgpaejlaaDoor.nu
