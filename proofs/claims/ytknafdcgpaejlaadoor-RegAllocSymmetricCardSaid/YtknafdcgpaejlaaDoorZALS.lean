/-
 The law that interference is symmetric, by a symbolic run. No condition but that the table lies as laid.
-/
import Derived.Test.YtknafdcgpaejlaaDoorZANB
noncomputable section
namespace Go.Proofs.YtknafdcgpaejlaaDoor.ls
open Go.R
set_option maxRecDepth 10000
set_option linter.unusedVariables false
open m1 m2 m3 m4 m5 m6 ma ml mb mc md mf mg mh mi mj na nb
theorem inte_lt {c : VFnT} (v : VF c) {a x : Nat} (h : intE c a x) : (a : Int) < c.regs ∧ (x : Int) < c.regs ∧ x ≠ a := by
 obtain ⟨b, i, z, A, E, I, J⟩ := h
 refine ⟨((reads_lim (v.ins b z i A)).2.1 _ E).2, pt_lt v z I, fun e => ?_⟩
 have := J.1
 omega
theorem sy_lt {c : VFnT} (v : VF c) {r y : Nat} (h : Sy (intE c) r y) : (y : Int) < c.regs ∧ y ≠ r := by
 rcases h with h | h
 ·
  have := inte_lt v h; exact ⟨this.2.1, this.2.2⟩
 ·
  have := inte_lt v h; exact ⟨this.1, fun e => this.2.2 e.symm⟩
theorem sym_at {c : VFnT} {g : List (List Int)} {r k : Nat} (v : VF c) (h : InF c g) (hr : r < g.length) (hk : k < (g.getD r default).length) : (g.getD r default).getD k 0 ≠ (r : Int) ∧ 0 ≤ (g.getD r default).getD k 0 ∧ (g.getD r default).getD k 0 < (g.length : Int) ∧ conV (g.getD ((g.getD r default).getD k 0).toNat default) (r : Int) = true := by
 have hl := h.len
 have hrg := v.regs
 have l := h.row r (by omega)
 obtain ⟨A, z⟩ : 0 ≤ (g.getD r default).getD k 0 ∧ Sy (intE c) r ((g.getD r default).getD k 0).toNat := (l.mem _).1 (mem_at hk)
 have I := sy_lt v z
 refine ⟨by omega, A, by omega, con_iff.2 ?_⟩
 have E := h.row ((g.getD r default).getD k 0).toNat (by omega)
 exact (E.mem _).2 ⟨by omega, by rw [show ((r : Nat) : Int).toNat = r by omega]; exact z.symm⟩
theorem sym_asc {c : VFnT} {g : List (List Int)} {r k : Nat} (v : VF c) (h : InF c g) (hr : r < g.length) (hk : k < (g.getD r default).length) (z : 0 < k) : (g.getD r default).getD (k - 1) 0 < (g.getD r default).getD k 0 := by
 have hl := h.len
 exact asc_at (h.row r (by omega)).asc (by omega) hk
theorem ex_c (_ : FuncId) {F : Fz} {H : Heap} {R : List Fp} (hs : HS (.of H []) F H [] R) (hT : TB 37 tabC F) : C Tryd.prog 1 (KT 60 15 37 tabC) 15 [] H fun v H' => ∃ (r : Bool), H' = H ∧ v = .bool r ∧ r = true :=
 ⟨0, .bool true, H, by unfold call callK; rw [(hT.heap hs).known (by decide)], true, rfl, rfl, rfl⟩
theorem ex_c_q (e : FuncId) {F : Fz} {H : Heap} {R : List Fp} (hs : HS (.of H []) F H [] R) (hT : TB 37 tabC F) : C Tryd.prog 1 (KT 60 15 37 tabC) 15 [] H fun v H' => v = .bool true ∧ H' = H := cq (ex_c e hs hT) (by rintro _ _ ⟨_, rfl, rfl, rfl⟩; exact ⟨rfl, rfl⟩)
set_option maxHeartbeats 2000000 in
theorem symmetric_law {a_l : Option Addr} {k_l : Nat} (l : List Int) (params : Int) {F : Fz} {H : Heap} {R : List Fp} (hs : HS (.of H []) F H [] R) (hl : SR F (.slice a_l l.length k_l) l) (hparams : in64 params) (hT : TB 37 tabC F) : C Tryd.prog 1 (KT 60 15 37 tabC) 5 [(.slice a_l l.length k_l), (.int .i64 params)] H fun v H' => ∃ (r : Bool) (F' : Fz), Fz.le F F' ∧ HS (.of H []) F' H' [] R ∧ v = .bool r ∧ r = true := by
 refine c_enter Tryd.func5 rfl rfl ?_
 refine wk_foc 1 rfl ?_
 refine wr 2 [] 4 4 [] [(4, (.bool false))] trivial (by kernel_rfl) rfl fun _ => ?_
 refine wf_region rfl ?_
 refine fm (.slice a_l l.length k_l) rfl rfl rfl ?_
 refine fm (.slice a_l l.length k_l) rfl rfl rfl ?_
 refine wf_pure (v := (.int .i64 (l.length : Int))) (id := .v) (ap_lenV (α := Int) rfl rfl (SR.sv hl hs.log0)) rfl rfl (did_len rfl) (okD_v _) ?_
 refine wf_pure (v := (.int .i64 (if (36 : Int) < (l.length : Int) then (36 : Int) else (l.length : Int)))) (id := .x []) (pmm_ok (w := true) rfl rfl rfl) rfl rfl (did_x (W := []) rfl rfl fun b hb => absurd hb List.not_mem_nil) (⟨.inl rfl, ⟨.inl rfl, ⟨.inr trivial, trivial⟩⟩⟩) ?_
 refine wf_rs (id := .q fun b => F b ≠ none) (rs_cutt (α := Int) (j := (if (36 : Int) < (l.length : Int) then (36 : Int) else (l.length : Int)).toNat) hl hs.log0 rfl rfl rfl (optN (by first | (dsimp only; omega) | omega)) (by first | (dsimp only; omega) | omega)) rfl rfl (by rintro _ _ _ ⟨_, _, _, hH, _⟩; exact did_q rfl (SR.q hl)) (⟨.inl rfl, ⟨.inl rfl, ⟨.inl rfl, ⟨.inl rfl, trivial⟩⟩⟩⟩) ?_
 rintro _ _ _ ⟨a2, k2, rfl, an, aU⟩ aW aI
 simp only at an; replace an := an.symm; subst an
 have ap := HS.lg hs.log0 hs aI
 generalize ({ { H with log := [] } with log := aW } : Heap) = aR at ap ⊢
 refine fm (.int .i64 params) rfl rfl rfl ?_
 have bn := pick_imp params (3 : Int)
 refine wf_call (W := []) (ap_call rfl rfl rfl) rfl rfl rfl (m1.pick_c 15 params (3) _ (by first | (dsimp only; omega) | omega)) (⟨.inl rfl, ⟨.inr (fun b hb => absurd hb List.not_mem_nil), ⟨.inr ⟨trivial, trivial⟩, ⟨.inr trivial, ⟨.inr trivial, ⟨.inr trivial, trivial⟩⟩⟩⟩⟩⟩) ?_
 rintro _ _ ⟨r4, rfl, rfl, rfl⟩
 refine ⟨fun b hb => absurd hb List.not_mem_nil, fun aX aJ => ?_⟩
 have aa := HS.lg ap.log0 ap aJ
 generalize ({ { aR with log := [] } with log := aX } : Heap) = bg at aa ⊢
 refine wf_call (W := []) (ap_call rfl rfl rfl) rfl rfl rfl (m5.vf_c 15 (l.take (if (36 : Int) < (l.length : Int) then (36 : Int) else (l.length : Int)).toNat) (pickV params (3 : Int)) (HS.call aa.log0) aU hT (by first | omega | (rw [List.length_take]; exact Nat.le_trans (Nat.min_le_left _ _) (by split <;> omega))) (by first | omega | (rw [List.length_take]; exact Nat.le_trans (Nat.min_le_left _ _) (by split <;> omega)))) (⟨.inl rfl, ⟨.inl rfl, ⟨.inl rfl, ⟨.inl rfl, ⟨.inl rfl, ⟨.inl rfl, ⟨.inl rfl, trivial⟩⟩⟩⟩⟩⟩⟩) ?_
 rintro _ H5 ⟨I, O, T, F5, aF, N, rfl, aS, aT, aA, h5⟩
 refine ⟨Wr.did N.log, fun aY aK => ?_⟩
 replace N := HS.back aa.log0 rfl N
 replace N := HS.lg N aa aK
 generalize ({ H5 with log := aY } : Heap) = bh at N ⊢
 have N : HS _ _ _ [] _ := N
 replace hT := hT.mono aF
 refine wf_rs (id := .a) (rs_new N.log0 rfl) rfl rfl (fun _ _ _ _ => did_a rfl rfl rfl) (⟨.inr trivial, ⟨.inr trivial, ⟨.inr trivial, ⟨.inr trivial, ⟨.inr trivial, ⟨.inr trivial, ⟨.inr trivial, ⟨.inr trivial, trivial⟩⟩⟩⟩⟩⟩⟩⟩) ?_
 rintro _ H7 _ ⟨b6, rfl, Z, _⟩ aZ aL
 replace Z := HS.lg Z N aL
 generalize ({ H7 with log := aZ } : Heap) = bj at Z ⊢
 have Z : HS _ _ _ [[(b6, .cells [(.int .i64 0), (.int .i64 0), (.slice none 0 0)] none false)]] _ := Z
 refine wf_rk (id := .x [b6]) (rs_rec (q := 0) Z.log0 rfl rfl rfl rfl rfl rfl rfl rfl rfl) rfl (by rintro _ _ _ ⟨_, hwr⟩; exact did_x rfl rfl (Wr.did hwr)) (⟨.inl rfl, ⟨.inl rfl, ⟨.inl rfl, ⟨.inl rfl, ⟨.inl rfl, ⟨.inl rfl, ⟨.inl rfl, ⟨.inl rfl, ⟨.inl rfl, trivial⟩⟩⟩⟩⟩⟩⟩⟩⟩) ?_
 rintro _ H8 _ ⟨V, _⟩ a0 aM
 replace V := HS.lg V Z aM
 generalize ({ H8 with log := a0 } : Heap) = bk at V ⊢
 have V : HS _ _ _ [[(b6, .cells [(.int .i64 I.params), (.int .i64 I.regs), (.slice O I.blocks.length T)] none false)]] _ := V
 refine wf_nil ?_
 refine wk_foc 2 rfl ?_
 have hG : vfG I (pickV params 3) := by assumption
 have hins := hG.ins
 have vF := vF_of hG.val
 have hrg := vF.regs
 refine wk_region ?_
 refine wro 1 0 [(0, .o (.agg ⟨[(.int .i64 I.params), (.int .i64 I.regs), (.slice O I.blocks.length T)]⟩))] 18 18 [] [(18, (.agg ⟨[(.int .i64 I.params), (.int .i64 I.regs), (.slice O I.blocks.length T)]⟩))] (vA (qn 24 0 3 (HS.hc V (i := 0) rfl) rfl rfl rfl rfl) trivial) (by kernel_rfl) rfl fun _ => ?_
 refine wo_call (ap_call rfl rfl rfl) rfl rfl (nb.inter_c 15 I (HS.call V) (by first | (dsimp only; omega) | omega) (by first | (dsimp only; omega) | omega) aA hT (by exact fun j => Nat.le_trans (hins j) (by omega))) ?_
 rintro _ bd ⟨ah, am, z, aP, ax, U, rfl, A, a9, a8⟩
 replace U := HS.back V rfl U
 have U : HS _ _ _ [_] _ := U
 refine wa (.slice ah z.length am) rfl rfl rfl ?_
 refine wo_end 3 rfl ?_
 have hif : InF I z := (by assumption : valV I = true → InF I z) hG.val
 have hxl := hif.len
 refine wr 1 [(3, .o (.int .i64 I.regs))] 20 24 [] [(24, (.bool ((z.length : Int) != I.regs)))] (vA (ql 3 1 (HS.hc U (i := 0) rfl) rfl rfl) trivial) (by kernel_rfl) rfl fun _ => ?_
 refine wk_iff 3 (v := ((z.length : Int) != I.regs)) rfl (by simp only [hxl]; simp; omega) rfl rfl ?_
 refine wr 2 [] 1 0 [7] [(7, (.int .i64 0))] trivial (by kernel_rfl) rfl fun _ => ?_
 refine wk_loop_inv (fun (mm : Nat) f H' => ∃ (r : Nat) (F' : Fz), Fz.le aP F' ∧ HS (Base.of H []) F' H' [[(b6, .cells [(.int .i64 I.params), (.int .i64 I.regs), (.slice O I.blocks.length T)] none false)]] R ∧ agrees f [(6, (.slice ah z.length am)), (7, (.int .i64 (r : Int)))] ∧ mm = z.length - r ∧ (r ≤ z.length)) _ ⟨0, _, (Fz.le_refl _), U, (agC rfl (agC rfl agN)), rfl, (by first | assumption | omega | (simp at *; omega))⟩ ?_
 rintro ba bl be ⟨r, aQ, ad, al, ay, rfl, hr⟩ aN
 refine wk_canon _ ay (fun _ => ?_)
 clear ay
 replace hT := (hT.mono ax).mono ad
 replace A := A.mono ad
 have hrb := vF.regs
 refine wk_foc 2 rfl ?_
 refine wr 1 [] 25 28 [] [(28, (.bool (decide ((r : Int) < (z.length : Int)))))] trivial (by kernel_rfl) rfl fun _ => ?_
 refine wk_if 4 5 (v := (decide ((r : Int) < (z.length : Int)))) rfl rfl rfl rfl (fun aj => ?_) (fun aj => ?_)
 ·
  have ar := aj
  try simp only [BS] at ar
  refine wr 2 [] 1 0 [8] [(8, (.int .i64 0))] trivial (by kernel_rfl) rfl fun _ => ?_
  refine wk_loop_inv (fun (mm : Nat) f H' => ∃ (k : Nat) (F' : Fz), Fz.le aQ F' ∧ HS (Base.of H []) F' H' [[(b6, .cells [(.int .i64 I.params), (.int .i64 I.regs), (.slice O I.blocks.length T)] none false)]] R ∧ agrees f [(6, (.slice ah z.length am)), (7, (.int .i64 (r : Int))), (8, (.int .i64 (k : Int))), (28, (.bool (decide ((r : Int) < (z.length : Int)))))] ∧ mm = (z.getD r default).length - k ∧ (k ≤ (z.getD r default).length)) _ ⟨0, _, (Fz.le_refl _), al, (agC rfl (agC rfl (agC rfl (agC rfl agN)))), rfl, (by first | assumption | omega | (simp at *; omega))⟩ ?_
  rintro bb bm bf ⟨k, bc, ae, E, az, rfl, hk⟩ aO
  refine wk_canon _ az (fun _ => ?_)
  clear az
  replace hT := hT.mono ae
  replace A := A.mono ae
  refine wk_foc 2 rfl ?_
  obtain ⟨av, aB⟩ := Sv.view (SR.sv A E)
  have bt := fL (aB r)
  refine wr 1 [(4, .o (.slice (cA (av r) 0) (z.getD r default).length (cK (av r) 0)))] 31 37 [] [(37, (.bool (decide ((k : Int) < ((z.getD r default).length : Int)))))] (vA (Sv.ix (j := (r : Int)) (SR.sv A E) (by first | (dsimp only; omega) | omega) (by first | (dsimp only; omega) | omega)) (vA (ql 25 0 (vL (aB r) (by first | (dsimp only; omega) | omega)) rfl rfl) trivial)) (by kernel_rfl) rfl fun _ => ?_
  refine wk_if 4 5 (v := (decide ((k : Int) < ((z.getD r default).length : Int)))) rfl rfl rfl rfl (fun ak => ?_) (fun ak => ?_)
  ·
   have au := ak
   try simp only [BS] at au
   have hkl : k < (z.getD r default).length := by omega
   have hsm := sym_at vF hif (r := r) (k := k) (by omega) hkl
   obtain ⟨aV, ap, br, aa⟩ := hsm
   have hrl : (((z.getD r default).length : Nat) : Int) ≤ 3000 := Int.le_trans (Lst.len (hif.row r (by omega)) hrg.1 (fun y h => (sy_lt vF h).1)) hrg.2
   have hol : (((z.getD ((z.getD r default).getD k 0).toNat default).length : Nat) : Int) ≤ 3000 := Int.le_trans (Lst.len (hif.row _ (by omega)) hrg.1 (fun y h => (sy_lt vF h).1)) hrg.2
   obtain ⟨aw, aC⟩ := Sv.view (SR.sv A E)
   have aG := fL (aC r)
   obtain ⟨a6, aD⟩ := Sv.view (SR.sv aG E)
   have bo := fI (aD k)
   refine wr 2 [(3, .o (.slice (cA (aw r) 0) (z.getD r default).length (cK (aw r) 0))), (6, .o (.int .i64 ((z.getD r default).getD k 0)))] 40 46 [9] [(9, (.int .i64 ((z.getD r default).getD k 0)))] (vA (Sv.ix (j := (r : Int)) (SR.sv A E) (by first | (dsimp only; omega) | omega) (by first | (dsimp only; omega) | omega)) (vA (ql 25 0 (vL (aC r) (by first | (dsimp only; omega) | omega)) rfl rfl) (vA (Sv.ix (j := (k : Int)) (SR.sv aG E) (by first | (dsimp only; omega) | omega) (by first | (dsimp only; omega) | omega)) (vA (ql 3 0 (vI (aD k) (by first | (dsimp only; omega) | omega)) rfl rfl) trivial)))) (by kernel_rfl) rfl fun _ => ?_
   obtain ⟨ab, ag⟩ := Sv.view (SR.sv A E)
   have a1 := fL (ag ((z.getD r default).getD k 0).toNat)
   have aH := fL (ag r)
   obtain ⟨a7, aE⟩ := Sv.view (SR.sv aH E)
   have bp := fI (aE (k - 1))
   refine wr 1 [(17, .o (.slice (cA (ab ((z.getD r default).getD k 0).toNat) 0) (z.getD ((z.getD r default).getD k 0).toNat default).length (cK (ab ((z.getD r default).getD k 0).toNat) 0))), (19, .o (.bool (conV (z.getD ((z.getD r default).getD k 0).toNat default) (r : Int)))), (29, .o (.slice (cA (ab r) 0) (z.getD r default).length (cK (ab r) 0))), (31, .e ((k - 1 : Nat) : Int)), (33, .o (.int .i64 ((z.getD r default).getD (k - 1) 0)))] 47 84 [] [(84, (.bool (((((((z.getD r default).getD k 0) == (r : Int)) || (decide (((z.getD r default).getD k 0) < 0))) || (decide ((z.length : Int) ≤ ((z.getD r default).getD k 0)))) || (!(conV (z.getD ((z.getD r default).getD k 0).toNat default) (r : Int)))) || ((decide ((0 : Int) < (k : Int))) && (decide (((z.getD r default).getD k 0) ≤ ((z.getD r default).getD (k - 1) 0)))))))] (vA (fun (J : (((((z.getD r default).getD k 0) == (r : Int)) || (decide (((z.getD r default).getD k 0) < 0))) || (decide ((z.length : Int) ≤ ((z.getD r default).getD k 0)))) = false) => (Sv.ix (j := ((z.getD r default).getD k 0)) (SR.sv A E) (by (try simp only [BS] at J); (first | (dsimp only; omega) | omega)) (by (try simp only [BS] at J); (first | (dsimp only; omega) | omega)))) (vA (fun (J : (((((z.getD r default).getD k 0) == (r : Int)) || (decide (((z.getD r default).getD k 0) < 0))) || (decide ((z.length : Int) ≤ ((z.getD r default).getD k 0)))) = false) => (ql 25 0 (vL (ag ((z.getD r default).getD k 0).toNat) (by (try simp only [BS] at J); (first | (dsimp only; omega) | omega))) rfl rfl)) (vA (fun (J : (((((z.getD r default).getD k 0) == (r : Int)) || (decide (((z.getD r default).getD k 0) < 0))) || (decide ((z.length : Int) ≤ ((z.getD r default).getD k 0)))) = false) => (m6.contains_c_q 15 (z.getD ((z.getD r default).getD k 0).toNat default) (r : Int) (HS.call E) a1 (by (try simp only [BS] at J); (first | (dsimp only; omega) | omega)) hT (by (try simp only [BS] at J); (first | (dsimp only; omega) | omega)))) (vA (fun (J : (decide ((0 : Int) < (k : Int))) = true) (Y : ((((((z.getD r default).getD k 0) == (r : Int)) || (decide (((z.getD r default).getD k 0) < 0))) || (decide ((z.length : Int) ≤ ((z.getD r default).getD k 0)))) || (!(conV (z.getD ((z.getD r default).getD k 0).toNat default) (r : Int)))) = false) => (Sv.ix (j := (r : Int)) (SR.sv A E) (by (try simp only [BS] at J Y); (first | (dsimp only; omega) | omega)) (by (try simp only [BS] at J Y); (first | (dsimp only; omega) | omega)))) (vA (fun (J : (decide ((0 : Int) < (k : Int))) = true) (Y : ((((((z.getD r default).getD k 0) == (r : Int)) || (decide (((z.getD r default).getD k 0) < 0))) || (decide ((z.length : Int) ≤ ((z.getD r default).getD k 0)))) || (!(conV (z.getD ((z.getD r default).getD k 0).toNat default) (r : Int)))) = false) => (ql 25 0 (vL (ag r) (by (try simp only [BS] at J Y); (first | (dsimp only; omega) | omega))) rfl rfl)) (vA (fun (J : (decide ((0 : Int) < (k : Int))) = true) (Y : ((((((z.getD r default).getD k 0) == (r : Int)) || (decide (((z.getD r default).getD k 0) < 0))) || (decide ((z.length : Int) ≤ ((z.getD r default).getD k 0)))) || (!(conV (z.getD ((z.getD r default).getD k 0).toNat default) (r : Int)))) = false) => (ve (n := (k : Int) - 1) (m := ((k - 1 : Nat) : Int)) (by (try simp only [BS] at J Y); (first | (dsimp only; omega) | omega)) (by (try simp only [BS] at J Y); (first | (dsimp only; omega) | omega)))) (vA (fun (J : (decide ((0 : Int) < (k : Int))) = true) (Y : ((((((z.getD r default).getD k 0) == (r : Int)) || (decide (((z.getD r default).getD k 0) < 0))) || (decide ((z.length : Int) ≤ ((z.getD r default).getD k 0)))) || (!(conV (z.getD ((z.getD r default).getD k 0).toNat default) (r : Int)))) = false) => (Sv.ix (j := ((k - 1 : Nat) : Int)) (SR.sv aH E) (by (try simp only [BS] at J Y); (first | (dsimp only; omega) | omega)) (by (try simp only [BS] at J Y); (first | (dsimp only; omega) | omega)))) (vA (fun (J : (decide ((0 : Int) < (k : Int))) = true) (Y : ((((((z.getD r default).getD k 0) == (r : Int)) || (decide (((z.getD r default).getD k 0) < 0))) || (decide ((z.length : Int) ≤ ((z.getD r default).getD k 0)))) || (!(conV (z.getD ((z.getD r default).getD k 0).toNat default) (r : Int)))) = false) => (ql 3 0 (vI (aE (k - 1)) (by (try simp only [BS] at J Y); (first | (dsimp only; omega) | omega))) rfl rfl)) trivial)))))))) (by kernel_rfl) rfl fun _ => ?_
   refine wk_iff 2 (v := (((((((z.getD r default).getD k 0) == (r : Int)) || (decide (((z.getD r default).getD k 0) < 0))) || (decide ((z.length : Int) ≤ ((z.getD r default).getD k 0)))) || (!(conV (z.getD ((z.getD r default).getD k 0).toNat default) (r : Int)))) || ((decide ((0 : Int) < (k : Int))) && (decide (((z.getD r default).getD k 0) ≤ ((z.getD r default).getD (k - 1) 0)))))) rfl (by simp only [Bool.or_eq_false_iff, Bool.and_eq_false_imp, beq_eq_false_iff_ne, decide_eq_false_iff_not, Bool.not_eq_false', decide_eq_true_eq, ne_eq]; exact ⟨⟨⟨⟨aV, by omega⟩, by omega⟩, aa⟩, fun h0 => by have := sym_asc vF hif (r := r) (k := k) (by omega) hkl (by omega); omega⟩) rfl rfl ?_
   refine wr 1 [] 38 39 [8] [(8, (.int .i64 ((k : Int) + 1)))] (vA (vi (n := (k : Int) + 1) (by first | (dsimp only; omega) | omega)) trivial) (by kernel_rfl) rfl fun _ => ?_
   refine aO _ _ _ ?_ ⟨k + 1, _, (ae), E, (agC rfl (agC rfl (agC rfl (agC rfl agN)))), rfl, (by first | assumption | omega | (simp at *; omega))⟩
   omega
  ·
   have au := ak
   try simp only [BS] at au
   refine wr 1 [] 29 30 [7] [(7, (.int .i64 ((r : Int) + 1)))] (vA (vi (n := (r : Int) + 1) (by first | (dsimp only; omega) | omega)) trivial) (by kernel_rfl) rfl fun _ => ?_
   refine aN _ _ _ ?_ ⟨r + 1, _, (Fz.le_trans (ad) ae), E, (agC rfl (agC rfl agN)), rfl, (by first | assumption | omega | (simp at *; omega))⟩
   omega
 ·
  have ar := aj
  try simp only [BS] at ar
  refine wr 1 [(0, .o (.bool true))] 4 4 [85] [(4, (.bool true))] (vA (ex_c_q 15 (HS.call al) hT) trivial) (by kernel_rfl) rfl fun _ => ?_
  refine wk_ret ⟨.inr rfl, _, rfl, true, _, (Fz.le_trans (Fz.le_trans (aF) ax) ad), (HS.forget al), rfl, (by first | rfl | omega | simp_all)⟩
end Go.Proofs.YtknafdcgpaejlaaDoor.ls
namespace Go.R
theorem Em.hs {w : World} {μ : Emb} {H : Heap} (h : Em w μ H) : HS (.of H []) H.get H [] [] :=
 ⟨fun b o hb => ⟨hb, h.lt hb⟩, fun p hp => by simp at hp, by simp, Nat.le_refl _, fun b hb => .inl hb, fun p hp => by simp at hp⟩
end Go.R
