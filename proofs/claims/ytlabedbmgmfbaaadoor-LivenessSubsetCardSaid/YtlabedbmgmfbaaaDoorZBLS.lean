/-
 The law on live registers of a larger function, by a symbolic run. No condition but that the table lies as laid.
-/
import Derived.Test.YtlabedbmgmfbaaaDoorZBMF
noncomputable section
namespace Go.Proofs.YtlabedbmgmfbaaaDoor.ls_
open Go.R
set_option maxRecDepth 10000
set_option linter.unusedVariables false
open m1 m2 m3 m4 m5 m6 ma ml mb mc md mf
def subD (c : VFnT) (k : Nat) (g : Int) : VFnT := ⟨c.params, c.regs, (c.blocks ++ [(⟨[], 3, (blkN c k).reg, 0, 0⟩ : BlkT)]).set k ⟨(blkN c k).ins, 2, g, (k : Int), (c.blocks.length : Int)⟩⟩
theorem sub_len {c : VFnT} {k : Nat} {g : Int} : (subD c k g).blocks.length = c.blocks.length + 1 := by unfold subD; simp
theorem sub_at {c : VFnT} {k : Nat} {g : Int} (hk : k < c.blocks.length) (b : Nat) : blkN (subD c k g) b = if b = k then ⟨(blkN c k).ins, 2, g, (k : Int), (c.blocks.length : Int)⟩ else if b = c.blocks.length then ⟨[], 3, (blkN c k).reg, 0, 0⟩ else blkN c b := by
 unfold blkN subD
 simp only
 rw [at_set, at_snoc]
 by_cases h : b = k
 ·
  subst h; rw [if_pos rfl, if_pos ⟨rfl, by simp; omega⟩]
 ·
  rw [if_neg h, if_neg (fun e => h e.1.symm)]
theorem sub_chain {c : VFnT} {k : Nat} {g t : Int} {y0 y1 y2 y3 y4 : List BlkT} (hk : k < c.blocks.length) (ht : t = (k : Int)) (z : y0 = c.blocks ++ [(⟨[], 3, (c.blocks.getD k default).reg, 0, 0⟩ : BlkT)])
  (A : y1 = y0.set k ⟨(y0.getD k default).ins, 2, (y0.getD k default).reg, (y0.getD k default).tgt, (y0.getD k default).els⟩) (E : y2 = y1.set k ⟨(y1.getD k default).ins, (y1.getD k default).fin, g, (y1.getD k default).tgt, (y1.getD k default).els⟩)
  (I : y3 = y2.set k ⟨(y2.getD k default).ins, (y2.getD k default).fin, (y2.getD k default).reg, t, (y2.getD k default).els⟩) (J : y4 = y3.set k ⟨(y3.getD k default).ins, (y3.getD k default).fin, (y3.getD k default).reg, (y3.getD k default).tgt, (c.blocks.length : Int)⟩) : (⟨c.params, c.regs, y4⟩ : VFnT) = subD c k g := by
 have hl : k < y0.length := by rw [z]; simp; omega
 have N : y0.getD k default = c.blocks.getD k default := by rw [z, at_snoc, if_neg (by omega)]
 have es : ∀ x : BlkT, (y0.set k x).getD k default = x := fun x => by rw [at_set, if_pos ⟨rfl, hl⟩]
 rw [N] at A
 rw [A, es, List.set_set] at E
 rw [E, es, List.set_set] at I
 rw [I, es, List.set_set] at J
 unfold subD
 rw [J, z, ht]
theorem vend_up {n m g : Int} {b : BlkT} (h : vendV n g b = true) (hm : n ≤ m) : vendV m g b = true := by rw [vend_iff] at h ⊢; omega
theorem sub_val {c : VFnT} {k : Nat} {g : Int} (h : valV c = true) (hk : k < c.blocks.length) (hn : c.blocks.length ≤ 999) (hf : (blkN c k).fin = 3) (hg : 0 ≤ g ∧ g < c.regs) : valV (subD c k g) = true := by
 have v := vF_of h
 have A := h
 unfold valV at A
 rw [Bool.and_eq_true] at A
 have hr := v.regs; have hp := v.params; have hnb := v.nb
 have hb : ∀ b, b < c.blocks.length → blkV c.params c.regs (c.blocks.length : Int) (blkN c b) = true := fun b hb => all_at A.2 hb
 refine (val_yes (c := subD c k g) ⟨hp.1, hp.2, hr.1, hr.2, by rw [sub_len]; omega, by rw [sub_len]; omega⟩ (upto_all (k := c.blocks.length + 1) (fun j hj => ?_) (by rw [sub_len]; omega))).symm
 show blkV c.params c.regs ((subD c k g).blocks.length : Int) (blkN (subD c k g) j) = true
 rw [sub_len, sub_at hk]
 have hkk := hb k hk
 unfold blkV at hkk
 rw [Bool.and_eq_true, vend_iff] at hkk
 split
 ·
  exact blk_yes hkk.1 (by rw [vend_iff]; refine .inr (.inl ⟨rfl, ?_, ?_, ?_, ?_, hg.1, hg.2⟩) <;> (simp only; omega))
 ·
  split
  ·
   exact blk_yes rfl (by rw [vend_iff]; exact .inr (.inr (.inl ⟨rfl, (v.fin k hk (.inr hf)).1, (v.fin k hk (.inr hf)).2, rfl, rfl⟩)))
  ·
   have z := hb j (by omega)
   unfold blkV at z
   rw [Bool.and_eq_true] at z
   exact blk_yes z.1 (vend_up z.2 (by omega))
theorem sub_lin {c : VFnT} {k : Nat} {g : Int} (v : VF c) (hk : k < c.blocks.length) (hf : (blkN c k).fin = 3) {b r : Nat} (h : LIn c b r) : LIn (subD c k g) b r := by
 refine h (LIn (subD c k g)) fun b hb r hr => ?_
 have hbl : b < (subD c k g).blocks.length := by rw [sub_len]; omega
 refine LIn_clo _ b hbl r ?_
 rw [sub_at hk b]
 by_cases e : b = k
 ·
  subst e
  rw [if_pos rfl]
  refine tr_mono (fun q hq => ?_) _ r hr
  rcases hq with ⟨t, ht, _⟩ | hq
  ·
   unfold succV at ht
   rw [if_neg (by omega), if_neg (by omega)] at ht
   cases ht
  ·
   unfold endV at hq
   rw [if_pos (.inr hf), List.mem_singleton] at hq
   refine .inl ⟨(c.blocks.length : Int), ?_, ?_⟩
   ·
    rw [sub_at hk b, if_pos rfl]
    unfold succV
    rw [if_neg (show ¬ (2 : Int) = 1 by decide), if_pos rfl, ins_mem]
    exact .inl rfl
   ·
    rw [Int.toNat_natCast]
    refine LIn_clo _ _ (by rw [sub_len]; omega) q ?_
    rw [sub_at hk, if_neg (by omega), if_pos rfl]
    refine .inr ?_
    unfold endV
    rw [if_pos (.inr rfl), List.mem_singleton]
    exact hq
 ·
  rw [if_neg e, if_neg (by omega)]
  refine inS_mono (fun q ⟨t, z, A⟩ => ⟨t, ?_, A⟩) r hr
  rw [sub_at hk b, if_neg e, if_neg (by omega)]
  exact z
theorem min_nil {a b : List Int} {S S' : Nat → Prop} (h : Lst a S) (k : Lst b S') (hs : ∀ r, S r → S' r) : minV a b = [] := by
 unfold minV
 rw [List.filter_eq_nil_iff]
 intro x hx
 have z := (h.mem x).1 hx
 have := con_iff.2 ((k.mem x).2 ⟨z.1, hs _ z.2⟩)
 rw [this]; decide
theorem sub_ins {c : VFnT} {k : Nat} {g : Int} {m : Nat} (hk : k < c.blocks.length) (h : ∀ j, (c.blocks.getD j default).ins.length ≤ m) (j : Nat) : ((subD c k g).blocks.getD j default).ins.length ≤ m := by
 show (blkN (subD c k g) j).ins.length ≤ m
 rw [sub_at hk]
 split
 ·
  exact h k
 ·
  split
  ·
   exact Nat.zero_le _
  ·
   exact h j
theorem ex_c (_ : FuncId) {F : Fz} {H : Heap} {R : List Fp} (hs : HS (.of H []) F H [] R) (hT : TB 37 tabC F) : C Tryd.prog 1 (KT 60 15 37 tabC) 15 [] H fun v H' => ∃ (r : Bool), H' = H ∧ v = .bool r ∧ r = true :=
 ⟨0, .bool true, H, by unfold call callK; rw [(hT.heap hs).known (by decide)], true, rfl, rfl, rfl⟩
theorem ex_c_q (e : FuncId) {F : Fz} {H : Heap} {R : List Fp} (hs : HS (.of H []) F H [] R) (hT : TB 37 tabC F) : C Tryd.prog 1 (KT 60 15 37 tabC) 15 [] H fun v H' => v = .bool true ∧ H' = H := cq (ex_c e hs hT) (by rintro _ _ ⟨_, rfl, rfl, rfl⟩; exact ⟨rfl, rfl⟩)
set_option maxHeartbeats 4000000 in
theorem subset_c {a_l : Option Addr} {k_l : Nat} (l : List Int) (params : Int) (block : Int) (reg : Int) {F : Fz} {H : Heap} {R : List Fp} (hs : HS (.of H []) F H [] R) (hl : SR F (.slice a_l l.length k_l) l) (hparams : in64 params) (hblock : in64 block) (hreg : in64 reg) (hT : TB 37 tabC F) : C Tryd.prog 1 (KT 60 15 37 tabC) 7 [(.slice a_l l.length k_l), (.int .i64 params), (.int .i64 block), (.int .i64 reg)] H fun v H' => ∃ (r : Bool) (F' : Fz), Fz.le F F' ∧ HS (.of H []) F' H' [] R ∧ v = .bool r ∧ r = true := by
 refine c_enter Tryd.func7 rfl rfl ?_
 refine wk_foc 1 rfl ?_
 refine wr 2 [] 8 8 [] [(8, (.bool false))] trivial (by kernel_rfl) rfl fun _ => ?_
 refine wf_region rfl ?_
 refine fm (.slice a_l l.length k_l) rfl rfl rfl ?_
 refine fm (.slice a_l l.length k_l) rfl rfl rfl ?_
 refine wf_pure (v := (.int .i64 (l.length : Int))) (id := .v) (ap_lenV (α := Int) rfl rfl (SR.sv hl hs.log0)) rfl rfl (did_len rfl) (okD_v _) ?_
 refine wf_pure (v := (.int .i64 (if (36 : Int) < (l.length : Int) then (36 : Int) else (l.length : Int)))) (id := .x []) (pmm_ok (w := true) rfl rfl rfl) rfl rfl (did_x (W := []) rfl rfl fun b hb => absurd hb List.not_mem_nil) (⟨.inl rfl, ⟨.inl rfl, ⟨.inr trivial, trivial⟩⟩⟩) ?_
 refine wf_rs (id := .q fun b => F b ≠ none) (rs_cutt (α := Int) (j := (if (36 : Int) < (l.length : Int) then (36 : Int) else (l.length : Int)).toNat) hl hs.log0 rfl rfl rfl (optN (by first | (dsimp only; omega) | omega)) (by first | (dsimp only; omega) | omega)) rfl rfl (by rintro _ _ _ ⟨_, _, _, hH, _⟩; exact did_q rfl (SR.q hl)) (⟨.inl rfl, ⟨.inl rfl, ⟨.inl rfl, ⟨.inl rfl, trivial⟩⟩⟩⟩) ?_
 rintro _ _ _ ⟨a2, k2, rfl, be, cr⟩ ct bR
 simp only at be; replace be := be.symm; subst be
 have bn := HS.lg hs.log0 hs bR
 generalize ({ { H with log := [] } with log := ct } : Heap) = cb at bn ⊢
 refine fm (.int .i64 params) rfl rfl rfl ?_
 have dB := pick_imp params (3 : Int)
 refine wf_call (W := []) (ap_call rfl rfl rfl) rfl rfl rfl (m1.pick_c 15 params (3) _ (by first | (dsimp only; omega) | omega)) (⟨.inl rfl, ⟨.inr (fun b hb => absurd hb List.not_mem_nil), ⟨.inr ⟨trivial, trivial⟩, ⟨.inr trivial, ⟨.inr trivial, ⟨.inr trivial, trivial⟩⟩⟩⟩⟩⟩) ?_
 rintro _ _ ⟨r4, rfl, rfl, rfl⟩
 refine ⟨fun b hb => absurd hb List.not_mem_nil, fun cu bS => ?_⟩
 have bg := HS.lg bn.log0 bn bS
 generalize ({ { cb with log := [] } with log := cu } : Heap) = ds at bg ⊢
 refine wf_call (W := []) (ap_call rfl rfl rfl) rfl rfl rfl (m5.vf_c 15 (l.take (if (36 : Int) < (l.length : Int) then (36 : Int) else (l.length : Int)).toNat) (pickV params (3 : Int)) (HS.call bg.log0) cr hT (by first | omega | (rw [List.length_take]; exact Nat.le_trans (Nat.min_le_left _ _) (by split <;> omega))) (by first | omega | (rw [List.length_take]; exact Nat.le_trans (Nat.min_le_left _ _) (by split <;> omega)))) (⟨.inl rfl, ⟨.inl rfl, ⟨.inl rfl, ⟨.inl rfl, ⟨.inl rfl, ⟨.inl rfl, ⟨.inl rfl, trivial⟩⟩⟩⟩⟩⟩⟩) ?_
 rintro _ H5 ⟨z, I, J, F5, bj, am, rfl, co, cp, aG, h5⟩
 refine ⟨Wr.did am.log, fun cv bT => ?_⟩
 replace am := HS.back bg.log0 rfl am
 replace am := HS.lg am bg bT
 generalize ({ H5 with log := cv } : Heap) = dv at am ⊢
 have am : HS _ _ _ [] _ := am
 replace hT := hT.mono bj
 refine wf_rs (id := .a) (rs_new am.log0 rfl) rfl rfl (fun _ _ _ _ => did_a rfl rfl rfl) (⟨.inr trivial, ⟨.inr trivial, ⟨.inr trivial, ⟨.inr trivial, ⟨.inr trivial, ⟨.inr trivial, ⟨.inr trivial, ⟨.inr trivial, trivial⟩⟩⟩⟩⟩⟩⟩⟩) ?_
 rintro _ H7 _ ⟨b6, rfl, aH, _⟩ cw bU
 replace aH := HS.lg aH am bU
 generalize ({ H7 with log := cw } : Heap) = dx at aH ⊢
 have aH : HS _ _ _ [[(b6, .cells [(.int .i64 0), (.int .i64 0), (.slice none 0 0)] none false)]] _ := aH
 refine wf_rk (id := .x [b6]) (rs_rec (q := 0) aH.log0 rfl rfl rfl rfl rfl rfl rfl rfl rfl) rfl (by rintro _ _ _ ⟨_, hwr⟩; exact did_x rfl rfl (Wr.did hwr)) (⟨.inl rfl, ⟨.inl rfl, ⟨.inl rfl, ⟨.inl rfl, ⟨.inl rfl, ⟨.inl rfl, ⟨.inl rfl, ⟨.inl rfl, ⟨.inl rfl, trivial⟩⟩⟩⟩⟩⟩⟩⟩⟩) ?_
 rintro _ H8 _ ⟨aI, _⟩ cx bV
 replace aI := HS.lg aI aH bV
 generalize ({ H8 with log := cx } : Heap) = dy at aI ⊢
 have aI : HS _ _ _ [[(b6, .cells [(.int .i64 z.params), (.int .i64 z.regs), (.slice I z.blocks.length J)] none false)]] _ := aI
 refine wf_nil ?_
 refine wk_foc 2 rfl ?_
 have hG : vfG z (pickV params 3) := by assumption
 have hins := hG.ins
 have vF := vF_of hG.val
 have hnb := hG.nb
 have hrg := hG.reg
 have hpb := pick_imp block (z.blocks.length : Int) (by omega)
 have hpr := pick_imp reg z.regs (by omega)
 have hpk : (pickV block (z.blocks.length : Int)).toNat < z.blocks.length := by omega
 refine wk_region ?_
 refine wro 1 0 [(0, .o (.agg ⟨[(.int .i64 z.params), (.int .i64 z.regs), (.slice I z.blocks.length J)]⟩))] 26 26 [] [(26, (.agg ⟨[(.int .i64 z.params), (.int .i64 z.regs), (.slice I z.blocks.length J)]⟩))] (vA (qn 24 0 3 (HS.hc aI (i := 0) rfl) rfl rfl rfl rfl) trivial) (by kernel_rfl) rfl fun _ => ?_
 refine wo_rs (rs_new aI rfl) rfl rfl ?_
 rintro _ dk _ ⟨T, rfl, a8, _⟩
 have a8 : HS _ _ _ [_, [(T, .cells [(.int .i64 0), (.int .i64 0), (.slice none 0 0)] none false)]] _ := a8
 refine wo_rk (rs_rec (q := 1) a8 rfl rfl rfl rfl rfl rfl rfl rfl rfl) rfl ?_
 rintro _ dl _ ⟨aR, _⟩
 have aR : HS _ _ _ [_, [(T, .cells [(.int .i64 z.params), (.int .i64 z.regs), (.slice I z.blocks.length J)] none false)]] _ := aR
 refine wo_end 2 rfl ?_
 refine wk_region ?_
 refine wro 2 0 [(1, .o (.slice I z.blocks.length J))] 27 28 [] [(28, (.slice I z.blocks.length J))] (vA (ql 22 2 (HS.hc aR (i := 0) rfl) rfl rfl) trivial) (by kernel_rfl) rfl fun _ => ?_
 have aS := HS.snoc aR
 have aS : HS _ _ _ [_, _, []] _ := aS
 refine wo_rs (rs_app (α := BlkT) (q := 2) (OS.nil : OS F5 (.slice none 0 0) ([] : List BlkT) []) aS rfl rfl rfl (SR.sv aG aS) rfl rfl rfl rfl rfl rfl rfl (by first | omega | (simp only [List.length_append, List.length_cons, List.length_nil]; omega))) rfl rfl ?_
 rintro _ dm bM ⟨aV, a0, rfl, aC, a9, _⟩
 have a9 : HS _ _ _ [_, _, bM] _ := a9
 have aC : OS F5 (.slice aV z.blocks.length a0) z.blocks bM := aC
 refine wro 1 3 [] 30 30 [] [(30, (.pointer (some ⟨T, 2, none⟩)))] trivial (by kernel_rfl) rfl fun _ => ?_
 refine wo_rk (rs_rec (q := 1) a9 rfl rfl rfl rfl rfl rfl rfl rfl rfl) rfl ?_
 rintro _ ca _ ⟨ao, _⟩
 have ao : HS _ _ _ [_, [(T, .cells [(.int .i64 z.params), (.int .i64 z.regs), (.slice aV z.blocks.length a0)] none false)], _] _ := ao
 refine wo_end 2 rfl ?_
 have c4 := pick_imp block (z.blocks.length : Int)
 refine wr 2 [(2, .o (.slice I z.blocks.length J)), (4, .o (.int .i64 (pickV block (z.blocks.length : Int))))] 31 35 [11] [(11, (.int .i64 (pickV block (z.blocks.length : Int))))] (vA (ql 22 2 (HS.hc ao (i := 0) rfl) rfl rfl) (vA (m1.pick_c_q 15 block (z.blocks.length : Int) ca (by first | (dsimp only; omega) | omega)) trivial)) (by kernel_rfl) rfl fun _ => ?_
 refine wk_region ?_
 obtain ⟨N, bo⟩ := Sv.view (OS.sv aC ao (i := 2) rfl)
 obtain ⟨cz, cB, cC, cE, cN⟩ := BlkT.fx (bo (pickV block (z.blocks.length : Int)).toNat)
 refine wro 5 0 [(1, .o (.slice aV z.blocks.length a0)), (4, .o (.agg ⟨[(.slice (cA (N (pickV block (z.blocks.length : Int)).toNat) 0) (z.blocks.getD (pickV block (z.blocks.length : Int)).toNat default).ins.length (cK (N (pickV block (z.blocks.length : Int)).toNat) 0)), (.int .i64 (z.blocks.getD (pickV block (z.blocks.length : Int)).toNat default).fin), (.int .i64 (z.blocks.getD (pickV block (z.blocks.length : Int)).toNat default).reg), (.int .i64 (z.blocks.getD (pickV block (z.blocks.length : Int)).toNat default).tgt), (.int .i64 (z.blocks.getD (pickV block (z.blocks.length : Int)).toNat default).els)]⟩))] 36 40 [] [(40, (.agg ⟨[(.slice (cA (N (pickV block (z.blocks.length : Int)).toNat) 0) (z.blocks.getD (pickV block (z.blocks.length : Int)).toNat default).ins.length (cK (N (pickV block (z.blocks.length : Int)).toNat) 0)), (.int .i64 (z.blocks.getD (pickV block (z.blocks.length : Int)).toNat default).fin), (.int .i64 (z.blocks.getD (pickV block (z.blocks.length : Int)).toNat default).reg), (.int .i64 (z.blocks.getD (pickV block (z.blocks.length : Int)).toNat default).tgt), (.int .i64 (z.blocks.getD (pickV block (z.blocks.length : Int)).toNat default).els)]⟩))] (vA (ql 22 2 (HS.hc ao (i := 1) rfl) rfl rfl) (vA (Sv.ix (j := pickV block (z.blocks.length : Int)) (OS.sv aC ao (i := 2) rfl) (by first | (dsimp only; omega) | omega) (by first | (dsimp only; omega) | omega)) (vA (qn 42 0 5 (BlkT.vw (bo (pickV block (z.blocks.length : Int)).toNat) (by first | (dsimp only; omega) | omega)) rfl rfl rfl rfl) trivial))) (by kernel_rfl) rfl fun _ => ?_
 refine wo_rs (rs_new ao rfl) rfl rfl ?_
 rintro _ dn _ ⟨ay, rfl, ba, _⟩
 have ba : HS _ _ _ [_, _, _, [(ay, .cells [(.slice none 0 0), (.int .i64 0), (.int .i64 0), (.int .i64 0), (.int .i64 0)] none false)]] _ := ba
 refine wo_rk (rs_rec (q := 3) ba rfl rfl rfl rfl rfl rfl rfl rfl rfl) rfl ?_
 rintro _ dp _ ⟨ak, _⟩
 have ak : HS _ _ _ [_, _, _, [(ay, .cells [(.slice (cA (N (pickV block (z.blocks.length : Int)).toNat) 0) (z.blocks.getD (pickV block (z.blocks.length : Int)).toNat default).ins.length (cK (N (pickV block (z.blocks.length : Int)).toNat) 0)), (.int .i64 (z.blocks.getD (pickV block (z.blocks.length : Int)).toNat default).fin), (.int .i64 (z.blocks.getD (pickV block (z.blocks.length : Int)).toNat default).reg), (.int .i64 (z.blocks.getD (pickV block (z.blocks.length : Int)).toNat default).tgt), (.int .i64 (z.blocks.getD (pickV block (z.blocks.length : Int)).toNat default).els)] none false)]] _ := ak
 refine wo_end 3 rfl ?_
 refine wr 1 [(1, .o (.int .i64 (z.blocks.getD (pickV block (z.blocks.length : Int)).toNat default).fin))] 41 43 [] [(43, (.bool ((z.blocks.getD (pickV block (z.blocks.length : Int)).toNat default).fin != 3)))] (vA (ql 3 1 (HS.hc ak (i := 3) rfl) rfl rfl) trivial) (by kernel_rfl) rfl fun _ => ?_
 refine wk_if 1 2 (v := ((z.blocks.getD (pickV block (z.blocks.length : Int)).toNat default).fin != 3)) rfl rfl rfl rfl (fun a1 => ?_) (fun a1 => ?_)
 ·
  have bd := a1
  try simp only [BS] at bd
  refine wr 1 [(0, .o (.bool true))] 8 8 [44] [(8, (.bool true))] (vA (ex_c_q 15 (HS.call ak) hT) trivial) (by kernel_rfl) rfl fun _ => ?_
  refine wk_ret ⟨.inr rfl, _, rfl, true, _, (bj), (HS.forget ak), rfl, (by first | rfl | omega | simp_all)⟩
 ·
  have bd := a1
  try simp only [BS] at bd
  have hpf := bd
  refine wk_region ?_
  refine wro 5 0 [(1, .o (.slice aV z.blocks.length a0)), (3, .o (.int .i64 (z.blocks.getD (pickV block (z.blocks.length : Int)).toNat default).reg))] 45 49 [] [(46, (.slice aV z.blocks.length a0)), (49, (.agg ⟨[(.slice none 0 0), (.int .i64 3), (.int .i64 (z.blocks.getD (pickV block (z.blocks.length : Int)).toNat default).reg), (.int .i64 0), (.int .i64 0)]⟩))] (vA (ql 22 2 (HS.hc ak (i := 1) rfl) rfl rfl) (vA (ql 3 2 (HS.hc ak (i := 3) rfl) rfl rfl) trivial)) (by kernel_rfl) rfl fun _ => ?_
  refine wo_rs (rs_lit (α := BlkT) (ps := [(0, (.agg ⟨[(.slice none 0 0), (.int .i64 3), (.int .i64 (z.blocks.getD (pickV block (z.blocks.length : Int)).toNat default).reg), (.int .i64 0), (.int .i64 0)]⟩))]) (cells := [(.slice none 0 0), (.int .i64 3), (.int .i64 (z.blocks.getD (pickV block (z.blocks.length : Int)).toNat default).reg), (.int .i64 0), (.int .i64 0)]) ([(⟨([] : List VInT), 3, (z.blocks.getD (pickV block (z.blocks.length : Int)).toNat default).reg, 0, 0⟩ : BlkT)] : List BlkT) ak rfl rfl rfl (by kernel_rfl) ⟨[(.slice none 0 0), (.int .i64 3), (.int .i64 (z.blocks.getD (pickV block (z.blocks.length : Int)).toNat default).reg), (.int .i64 0), (.int .i64 0)], [], rfl, ⟨none, 0, rfl, by first | (dsimp only; omega) | omega, by first | (dsimp only; omega) | omega, by first | (dsimp only; omega) | omega, by first | (dsimp only; omega) | omega, SR.nil⟩, rfl⟩ rfl) rfl rfl ?_
  rintro _ dq aJ ⟨dz, dC, rfl, bW, aT, _⟩
  have aT : HS _ _ _ [_, _, _, _, aJ] _ := aT
  refine wo_rs (rs_app (α := BlkT) (q := 2) aC aT rfl rfl rfl (OS.sv bW aT (i := 4) rfl) rfl rfl rfl rfl rfl rfl rfl (by first | omega | (simp only [List.length_append, List.length_cons, List.length_nil]; omega))) rfl rfl ?_
  rintro _ dr bN ⟨A, E, rfl, a7, bb, _⟩
  have bb : HS _ _ _ [_, _, bN, _, _] _ := bb
  refine wro 1 7 [] 52 52 [] [(52, (.pointer (some ⟨T, 2, none⟩)))] trivial (by kernel_rfl) rfl fun _ => ?_
  refine wo_rk (rs_rec (q := 1) bb rfl rfl rfl rfl rfl rfl rfl rfl rfl) rfl ?_
  rintro _ cc _ ⟨Z, _⟩
  have Z : HS _ _ _ [_, [(T, .cells [(.int .i64 z.params), (.int .i64 z.regs), (.slice A (z.blocks ++ ([(⟨([] : List VInT), 3, (z.blocks.getD (pickV block (z.blocks.length : Int)).toNat default).reg, 0, 0⟩ : BlkT)] : List BlkT)).length E)] none false)], _, _, _] _ := Z
  refine wo_end 2 rfl ?_
  generalize bf : z.blocks ++ ([(⟨([] : List VInT), 3, (z.blocks.getD (pickV block (z.blocks.length : Int)).toNat default).reg, 0, 0⟩ : BlkT)] : List BlkT) = y0 at a7 Z ⊢
  have cF : y0.length = z.blocks.length + 1 := by rw [← bf]; simp
  refine wf_region rfl ?_
  refine wf_pure (v := (.pointer (some ⟨T, 2, none⟩))) (id := .v) (ap_fa rfl rfl) rfl rfl (did_v rfl) (okD_v _) ?_
  refine wf_pure (v := (.slice A y0.length E)) (id := .l T) (ap_ld1 (i := 2) rfl rfl (HS.hc Z.log0 (i := 1) rfl) rfl rfl) rfl rfl (did_l rfl) (⟨.inl rfl, trivial⟩) ?_
  refine fm (.int .i64 (pickV block (z.blocks.length : Int))) rfl rfl rfl ?_
  refine wf_pure (v := (.pointer (some ⟨T, 2, none⟩))) (id := .v) (ap_fa rfl rfl) rfl rfl (did_v rfl) (okD_v _) ?_
  refine wf_pure (v := (.slice A y0.length E)) (id := .l T) (ap_ld1 (i := 2) rfl rfl (HS.hc Z.log0 (i := 1) rfl) rfl rfl) rfl rfl (did_l rfl) (⟨.inl rfl, ⟨.inr trivial, ⟨.inr trivial, ⟨.inr trivial, trivial⟩⟩⟩⟩) ?_
  refine fm (.int .i64 (pickV block (z.blocks.length : Int))) rfl rfl rfl ?_
  refine wf_pure (v := (.pointer (some ⟨T, 2, none⟩))) (id := .v) (ap_fa rfl rfl) rfl rfl (did_v rfl) (okD_v _) ?_
  refine wf_pure (v := (.slice A y0.length E)) (id := .l T) (ap_ld1 (i := 2) rfl rfl (HS.hc Z.log0 (i := 1) rfl) rfl rfl) rfl rfl (did_l rfl) (⟨.inl rfl, ⟨.inr trivial, ⟨.inr trivial, ⟨.inr trivial, ⟨.inr trivial, ⟨.inr trivial, ⟨.inr trivial, trivial⟩⟩⟩⟩⟩⟩⟩) ?_
  refine fm (.int .i64 (pickV block (z.blocks.length : Int))) rfl rfl rfl ?_
  refine wf_pure (v := (.pointer (some ⟨T, 2, none⟩))) (id := .v) (ap_fa rfl rfl) rfl rfl (did_v rfl) (okD_v _) ?_
  refine wf_pure (v := (.slice A y0.length E)) (id := .l T) (ap_ld1 (i := 2) rfl rfl (HS.hc Z.log0 (i := 1) rfl) rfl rfl) rfl rfl (did_l rfl) (⟨.inl rfl, ⟨.inr trivial, ⟨.inr trivial, ⟨.inr trivial, ⟨.inr trivial, ⟨.inr trivial, ⟨.inr trivial, ⟨.inr trivial, ⟨.inr trivial, ⟨.inr trivial, trivial⟩⟩⟩⟩⟩⟩⟩⟩⟩⟩) ?_
  refine fm (.int .i64 (pickV block (z.blocks.length : Int))) rfl rfl rfl ?_
  refine fm (.int .i64 reg) rfl rfl rfl ?_
  refine wf_pure (v := (.pointer (some ⟨b6, 1, none⟩))) (id := .v) (ap_fa rfl rfl) rfl rfl (did_v rfl) (okD_v _) ?_
  refine wf_pure (v := (.int .i64 z.regs)) (id := .l b6) (ap_ld1 (i := 1) rfl rfl (HS.hc Z.log0 (i := 0) rfl) rfl rfl) rfl rfl (did_l rfl) (⟨.inl rfl, ⟨.inr trivial, ⟨.inr trivial, ⟨.inr trivial, ⟨.inr trivial, ⟨.inr trivial, ⟨.inr trivial, ⟨.inr trivial, ⟨.inr trivial, ⟨.inr trivial, ⟨.inr trivial, ⟨.inr trivial, ⟨.inr trivial, ⟨.inr trivial, trivial⟩⟩⟩⟩⟩⟩⟩⟩⟩⟩⟩⟩⟩⟩) ?_
  have c5 := pick_imp reg z.regs
  refine wf_call (W := []) (ap_call rfl rfl rfl) rfl rfl rfl (m1.pick_c 15 reg z.regs _ (by first | (dsimp only; omega) | omega)) (⟨.inl rfl, ⟨.inl rfl, ⟨.inl rfl, ⟨.inr trivial, ⟨.inr List.not_mem_nil, ⟨.inr trivial, ⟨.inr trivial, ⟨.inr List.not_mem_nil, ⟨.inr trivial, ⟨.inr trivial, ⟨.inr List.not_mem_nil, ⟨.inr trivial, ⟨.inr trivial, ⟨.inr List.not_mem_nil, ⟨.inr trivial, trivial⟩⟩⟩⟩⟩⟩⟩⟩⟩⟩⟩⟩⟩⟩⟩) ?_
  rintro _ _ ⟨dD, rfl, rfl, rfl⟩
  refine ⟨fun b hb => absurd hb List.not_mem_nil, fun b1 bA => ?_⟩
  have aa := HS.lg Z.log0 Z bA
  generalize ({ { cc with log := [] } with log := b1 } : Heap) = cO at aa ⊢
  refine fm (.int .i64 (pickV block (z.blocks.length : Int))) rfl rfl rfl ?_
  refine wf_pure (v := (.pointer (some ⟨b6, 2, none⟩))) (id := .v) (ap_fa rfl rfl) rfl rfl (did_v rfl) (okD_v _) ?_
  refine wf_pure (v := (.slice I z.blocks.length J)) (id := .l b6) (ap_ld1 (i := 2) rfl rfl (HS.hc aa.log0 (i := 0) rfl) rfl rfl) rfl rfl (did_l rfl) (⟨.inl rfl, ⟨.inr trivial, ⟨.inr List.not_mem_nil, ⟨.inr trivial, ⟨.inr trivial, ⟨.inr trivial, ⟨.inr trivial, ⟨.inr trivial, ⟨.inr trivial, ⟨.inr trivial, ⟨.inr trivial, ⟨.inr trivial, ⟨.inr trivial, ⟨.inr trivial, ⟨.inr trivial, ⟨.inr trivial, ⟨.inr trivial, ⟨.inr trivial, trivial⟩⟩⟩⟩⟩⟩⟩⟩⟩⟩⟩⟩⟩⟩⟩⟩⟩⟩) ?_
  refine wf_pure (v := (.int .i64 (z.blocks.length : Int))) (id := .v) (ap_lenV (α := BlkT) rfl rfl (SR.sv aG aa.log0)) rfl rfl (did_len rfl) (okD_v _) ?_
  refine wf_pure (v := (.pointer (some ⟨sB (.slice A y0.length E), sO (.slice A y0.length E) + (pickV block (z.blocks.length : Int)).toNat * Rp.sz BlkT, none⟩))) (id := .v) (ap_idxV (α := BlkT) (j := pickV block (z.blocks.length : Int)) rfl rfl rfl rfl (OS.sv a7 aa.log0 (i := 2) rfl) (by first | (dsimp only; omega) | omega) (by first | (dsimp only; omega) | omega)) rfl rfl (did_v rfl) (okD_v _) ?_
  refine wf_pure (v := (.pointer (some ⟨sB (.slice A y0.length E), sO (.slice A y0.length E) + (pickV block (z.blocks.length : Int)).toNat * Rp.sz BlkT + 1, none⟩))) (id := .v) (ap_fa rfl rfl) rfl rfl (did_v rfl) (okD_v _) ?_
  refine wf_rk (id := .x (bN.map Prod.fst)) (rs_st (α := BlkT) (j := (pickV block (z.blocks.length : Int)).toNat) (off := 1) (q := 2) (⟨(y0.getD (pickV block (z.blocks.length : Int)).toNat default).ins, 2, (y0.getD (pickV block (z.blocks.length : Int)).toNat default).reg, (y0.getD (pickV block (z.blocks.length : Int)).toNat default).tgt, (y0.getD (pickV block (z.blocks.length : Int)).toNat default).els⟩ : BlkT) a7 aa.log0 rfl rfl rfl rfl rfl rfl rfl rfl (getD_at (x := default) (by first | (dsimp only; omega) | omega)) rfl (by rintro cs ⟨aK, aM, rfl, aN, aO, aP, aQ, aL⟩; exact ⟨Nat.le_of_ble_eq_true rfl, ⟨aK, aM, rfl, by first | (dsimp only; omega) | omega, aO, aP, aQ, aL⟩⟩)) rfl (by rintro _ _ bp ⟨aD, _, hwr⟩; exact did_x rfl rfl (Wr.did hwr)) (⟨.inl rfl, ⟨.inl rfl, ⟨.inr trivial, ⟨.inr (HS.nin aa (i := 0) (j := 2) rfl rfl (by decide) (by simp)), ⟨.inr trivial, ⟨.inr trivial, ⟨.inl rfl, ⟨.inl rfl, ⟨.inl rfl, ⟨.inl rfl, ⟨.inr trivial, ⟨.inr (HS.nin aa (i := 1) (j := 2) rfl rfl (by decide) (by simp)), ⟨.inr trivial, ⟨.inr trivial, ⟨.inr (HS.nin aa (i := 1) (j := 2) rfl rfl (by decide) (by simp)), ⟨.inr trivial, ⟨.inr trivial, ⟨.inr (HS.nin aa (i := 1) (j := 2) rfl rfl (by decide) (by simp)), ⟨.inr trivial, ⟨.inl rfl, ⟨.inl rfl, ⟨.inl rfl, trivial⟩⟩⟩⟩⟩⟩⟩⟩⟩⟩⟩⟩⟩⟩⟩⟩⟩⟩⟩⟩⟩⟩) ?_
  rintro _ cd bp ⟨aD, V, _⟩ b2 bB
  replace V := HS.lg V aa bB
  generalize ({ cd with log := b2 } : Heap) = cP at V ⊢
  have V : HS _ _ _ [[(b6, .cells [(.int .i64 z.params), (.int .i64 z.regs), (.slice I z.blocks.length J)] none false)], [(T, .cells [(.int .i64 z.params), (.int .i64 z.regs), (.slice A y0.length E)] none false)], bp, [(ay, .cells [(.slice (cA (N (pickV block (z.blocks.length : Int)).toNat) 0) (z.blocks.getD (pickV block (z.blocks.length : Int)).toNat default).ins.length (cK (N (pickV block (z.blocks.length : Int)).toNat) 0)), (.int .i64 (z.blocks.getD (pickV block (z.blocks.length : Int)).toNat default).fin), (.int .i64 (z.blocks.getD (pickV block (z.blocks.length : Int)).toNat default).reg), (.int .i64 (z.blocks.getD (pickV block (z.blocks.length : Int)).toNat default).tgt), (.int .i64 (z.blocks.getD (pickV block (z.blocks.length : Int)).toNat default).els)] none false)], aJ] _ := V
  have cG := OS.len' aD
  generalize aW : y0.set (pickV block (z.blocks.length : Int)).toNat (⟨(y0.getD (pickV block (z.blocks.length : Int)).toNat default).ins, 2, (y0.getD (pickV block (z.blocks.length : Int)).toNat default).reg, (y0.getD (pickV block (z.blocks.length : Int)).toNat default).tgt, (y0.getD (pickV block (z.blocks.length : Int)).toNat default).els⟩ : BlkT) = ah at aD ⊢
  have cj : ah.length = y0.length := by rw [← aW]; exact List.length_set
  refine wf_pure (v := (.pointer (some ⟨sB (.slice A y0.length E), sO (.slice A y0.length E) + (pickV block (z.blocks.length : Int)).toNat * Rp.sz BlkT, none⟩))) (id := .v) (ap_idxV (α := BlkT) (j := pickV block (z.blocks.length : Int)) rfl rfl rfl rfl (OS.sv aD V.log0 (i := 2) rfl) (by first | (dsimp only; omega) | omega) (by first | (dsimp only; omega) | omega)) rfl rfl (did_v rfl) (okD_v _) ?_
  refine wf_pure (v := (.pointer (some ⟨sB (.slice A y0.length E), sO (.slice A y0.length E) + (pickV block (z.blocks.length : Int)).toNat * Rp.sz BlkT + 2, none⟩))) (id := .v) (ap_fa rfl rfl) rfl rfl (did_v rfl) (okD_v _) ?_
  refine wf_rk (id := .x (bp.map Prod.fst)) (rs_st (α := BlkT) (j := (pickV block (z.blocks.length : Int)).toNat) (off := 2) (q := 2) (⟨(ah.getD (pickV block (z.blocks.length : Int)).toNat default).ins, (ah.getD (pickV block (z.blocks.length : Int)).toNat default).fin, pickV reg z.regs, (ah.getD (pickV block (z.blocks.length : Int)).toNat default).tgt, (ah.getD (pickV block (z.blocks.length : Int)).toNat default).els⟩ : BlkT) aD V.log0 rfl rfl rfl rfl rfl rfl rfl rfl (getD_at (x := default) (by first | (dsimp only; omega) | omega)) rfl (by rintro cs ⟨aK, aM, rfl, aN, aO, aP, aQ, aL⟩; exact ⟨Nat.le_of_ble_eq_true rfl, ⟨aK, aM, rfl, aN, by first | (dsimp only; omega) | omega, aP, aQ, aL⟩⟩)) rfl (by rintro _ _ br ⟨aE, _, hwr⟩; exact did_x rfl rfl (Wr.did hwr)) (⟨.inl rfl, ⟨.inl rfl, ⟨.inl rfl, ⟨.inl rfl, ⟨.inl rfl, ⟨.inr trivial, ⟨.inr (HS.nin V (i := 0) (j := 2) rfl rfl (by decide) (by simp)), ⟨.inr trivial, ⟨.inr trivial, ⟨.inl rfl, ⟨.inl rfl, ⟨.inl rfl, ⟨.inl rfl, ⟨.inr trivial, ⟨.inr (HS.nin V (i := 1) (j := 2) rfl rfl (by decide) (by simp)), ⟨.inr trivial, ⟨.inr trivial, ⟨.inr (HS.nin V (i := 1) (j := 2) rfl rfl (by decide) (by simp)), ⟨.inr trivial, ⟨.inl rfl, ⟨.inl rfl, ⟨.inl rfl, ⟨.inl rfl, ⟨.inl rfl, ⟨.inl rfl, trivial⟩⟩⟩⟩⟩⟩⟩⟩⟩⟩⟩⟩⟩⟩⟩⟩⟩⟩⟩⟩⟩⟩⟩⟩⟩) ?_
  rintro _ ce br ⟨aE, ab, _⟩ b3 bC
  replace ab := HS.lg ab V bC
  generalize ({ ce with log := b3 } : Heap) = cQ at ab ⊢
  have ab : HS _ _ _ [[(b6, .cells [(.int .i64 z.params), (.int .i64 z.regs), (.slice I z.blocks.length J)] none false)], [(T, .cells [(.int .i64 z.params), (.int .i64 z.regs), (.slice A y0.length E)] none false)], br, [(ay, .cells [(.slice (cA (N (pickV block (z.blocks.length : Int)).toNat) 0) (z.blocks.getD (pickV block (z.blocks.length : Int)).toNat default).ins.length (cK (N (pickV block (z.blocks.length : Int)).toNat) 0)), (.int .i64 (z.blocks.getD (pickV block (z.blocks.length : Int)).toNat default).fin), (.int .i64 (z.blocks.getD (pickV block (z.blocks.length : Int)).toNat default).reg), (.int .i64 (z.blocks.getD (pickV block (z.blocks.length : Int)).toNat default).tgt), (.int .i64 (z.blocks.getD (pickV block (z.blocks.length : Int)).toNat default).els)] none false)], aJ] _ := ab
  have cH := OS.len' aE
  generalize aX : ah.set (pickV block (z.blocks.length : Int)).toNat (⟨(ah.getD (pickV block (z.blocks.length : Int)).toNat default).ins, (ah.getD (pickV block (z.blocks.length : Int)).toNat default).fin, pickV reg z.regs, (ah.getD (pickV block (z.blocks.length : Int)).toNat default).tgt, (ah.getD (pickV block (z.blocks.length : Int)).toNat default).els⟩ : BlkT) = ai at aE ⊢
  have cl : ai.length = ah.length := by rw [← aX]; exact List.length_set
  refine wf_pure (v := (.pointer (some ⟨sB (.slice A y0.length E), sO (.slice A y0.length E) + (pickV block (z.blocks.length : Int)).toNat * Rp.sz BlkT, none⟩))) (id := .v) (ap_idxV (α := BlkT) (j := pickV block (z.blocks.length : Int)) rfl rfl rfl rfl (OS.sv aE ab.log0 (i := 2) rfl) (by first | (dsimp only; omega) | omega) (by first | (dsimp only; omega) | omega)) rfl rfl (did_v rfl) (okD_v _) ?_
  refine wf_pure (v := (.pointer (some ⟨sB (.slice A y0.length E), sO (.slice A y0.length E) + (pickV block (z.blocks.length : Int)).toNat * Rp.sz BlkT + 3, none⟩))) (id := .v) (ap_fa rfl rfl) rfl rfl (did_v rfl) (okD_v _) ?_
  refine wf_rk (id := .x (br.map Prod.fst)) (rs_st (α := BlkT) (j := (pickV block (z.blocks.length : Int)).toNat) (off := 3) (q := 2) (⟨(ai.getD (pickV block (z.blocks.length : Int)).toNat default).ins, (ai.getD (pickV block (z.blocks.length : Int)).toNat default).fin, (ai.getD (pickV block (z.blocks.length : Int)).toNat default).reg, pickV block (z.blocks.length : Int), (ai.getD (pickV block (z.blocks.length : Int)).toNat default).els⟩ : BlkT) aE ab.log0 rfl rfl rfl rfl rfl rfl rfl rfl (getD_at (x := default) (by first | (dsimp only; omega) | omega)) rfl (by rintro cs ⟨aK, aM, rfl, aN, aO, aP, aQ, aL⟩; exact ⟨Nat.le_of_ble_eq_true rfl, ⟨aK, aM, rfl, aN, aO, by first | (dsimp only; omega) | omega, aQ, aL⟩⟩)) rfl (by rintro _ _ bt ⟨aF, _, hwr⟩; exact did_x rfl rfl (Wr.did hwr)) (⟨.inl rfl, ⟨.inl rfl, ⟨.inl rfl, ⟨.inl rfl, ⟨.inl rfl, ⟨.inl rfl, ⟨.inl rfl, ⟨.inl rfl, ⟨.inr trivial, ⟨.inr (HS.nin ab (i := 0) (j := 2) rfl rfl (by decide) (by simp)), ⟨.inr trivial, ⟨.inl rfl, ⟨.inl rfl, ⟨.inl rfl, ⟨.inl rfl, ⟨.inl rfl, ⟨.inr trivial, ⟨.inr (HS.nin ab (i := 1) (j := 2) rfl rfl (by decide) (by simp)), ⟨.inr trivial, ⟨.inl rfl, ⟨.inl rfl, ⟨.inl rfl, ⟨.inl rfl, ⟨.inl rfl, ⟨.inl rfl, ⟨.inl rfl, ⟨.inl rfl, ⟨.inl rfl, trivial⟩⟩⟩⟩⟩⟩⟩⟩⟩⟩⟩⟩⟩⟩⟩⟩⟩⟩⟩⟩⟩⟩⟩⟩⟩⟩⟩⟩) ?_
  rintro _ cg bt ⟨aF, al, _⟩ b4 bD
  replace al := HS.lg al ab bD
  generalize ({ cg with log := b4 } : Heap) = cR at al ⊢
  have al : HS _ _ _ [[(b6, .cells [(.int .i64 z.params), (.int .i64 z.regs), (.slice I z.blocks.length J)] none false)], [(T, .cells [(.int .i64 z.params), (.int .i64 z.regs), (.slice A y0.length E)] none false)], bt, [(ay, .cells [(.slice (cA (N (pickV block (z.blocks.length : Int)).toNat) 0) (z.blocks.getD (pickV block (z.blocks.length : Int)).toNat default).ins.length (cK (N (pickV block (z.blocks.length : Int)).toNat) 0)), (.int .i64 (z.blocks.getD (pickV block (z.blocks.length : Int)).toNat default).fin), (.int .i64 (z.blocks.getD (pickV block (z.blocks.length : Int)).toNat default).reg), (.int .i64 (z.blocks.getD (pickV block (z.blocks.length : Int)).toNat default).tgt), (.int .i64 (z.blocks.getD (pickV block (z.blocks.length : Int)).toNat default).els)] none false)], aJ] _ := al
  have cI := OS.len' aF
  generalize aY : ai.set (pickV block (z.blocks.length : Int)).toNat (⟨(ai.getD (pickV block (z.blocks.length : Int)).toNat default).ins, (ai.getD (pickV block (z.blocks.length : Int)).toNat default).fin, (ai.getD (pickV block (z.blocks.length : Int)).toNat default).reg, pickV block (z.blocks.length : Int), (ai.getD (pickV block (z.blocks.length : Int)).toNat default).els⟩ : BlkT) = aj at aF ⊢
  have cm : aj.length = ai.length := by rw [← aY]; exact List.length_set
  refine wf_pure (v := (.pointer (some ⟨sB (.slice A y0.length E), sO (.slice A y0.length E) + (pickV block (z.blocks.length : Int)).toNat * Rp.sz BlkT, none⟩))) (id := .v) (ap_idxV (α := BlkT) (j := pickV block (z.blocks.length : Int)) rfl rfl rfl rfl (OS.sv aF al.log0 (i := 2) rfl) (by first | (dsimp only; omega) | omega) (by first | (dsimp only; omega) | omega)) rfl rfl (did_v rfl) (okD_v _) ?_
  refine wf_pure (v := (.pointer (some ⟨sB (.slice A y0.length E), sO (.slice A y0.length E) + (pickV block (z.blocks.length : Int)).toNat * Rp.sz BlkT + 4, none⟩))) (id := .v) (ap_fa rfl rfl) rfl rfl (did_v rfl) (okD_v _) ?_
  refine wf_rk (id := .x (bt.map Prod.fst)) (rs_st (α := BlkT) (j := (pickV block (z.blocks.length : Int)).toNat) (off := 4) (q := 2) (⟨(aj.getD (pickV block (z.blocks.length : Int)).toNat default).ins, (aj.getD (pickV block (z.blocks.length : Int)).toNat default).fin, (aj.getD (pickV block (z.blocks.length : Int)).toNat default).reg, (aj.getD (pickV block (z.blocks.length : Int)).toNat default).tgt, (z.blocks.length : Int)⟩ : BlkT) aF al.log0 rfl rfl rfl rfl rfl rfl rfl rfl (getD_at (x := default) (by first | (dsimp only; omega) | omega)) rfl (by rintro cs ⟨aK, aM, rfl, aN, aO, aP, aQ, aL⟩; exact ⟨Nat.le_of_ble_eq_true rfl, ⟨aK, aM, rfl, aN, aO, aP, by first | (dsimp only; omega) | omega, aL⟩⟩)) rfl (by rintro _ _ bu ⟨an, _, hwr⟩; exact did_x rfl rfl (Wr.did hwr)) (⟨.inl rfl, ⟨.inl rfl, ⟨.inl rfl, ⟨.inl rfl, ⟨.inl rfl, ⟨.inl rfl, ⟨.inl rfl, ⟨.inl rfl, ⟨.inl rfl, ⟨.inl rfl, ⟨.inl rfl, ⟨.inl rfl, ⟨.inl rfl, ⟨.inl rfl, ⟨.inl rfl, ⟨.inl rfl, ⟨.inl rfl, ⟨.inl rfl, ⟨.inl rfl, ⟨.inl rfl, ⟨.inl rfl, ⟨.inl rfl, ⟨.inl rfl, ⟨.inl rfl, ⟨.inl rfl, ⟨.inl rfl, ⟨.inl rfl, ⟨.inl rfl, ⟨.inl rfl, ⟨.inl rfl, ⟨.inl rfl, trivial⟩⟩⟩⟩⟩⟩⟩⟩⟩⟩⟩⟩⟩⟩⟩⟩⟩⟩⟩⟩⟩⟩⟩⟩⟩⟩⟩⟩⟩⟩⟩) ?_
  rintro _ ch bu ⟨an, ae, _⟩ b5 bE
  replace ae := HS.lg ae al bE
  generalize ({ ch with log := b5 } : Heap) = cT at ae ⊢
  have ae : HS _ _ _ [[(b6, .cells [(.int .i64 z.params), (.int .i64 z.regs), (.slice I z.blocks.length J)] none false)], [(T, .cells [(.int .i64 z.params), (.int .i64 z.regs), (.slice A y0.length E)] none false)], bu, [(ay, .cells [(.slice (cA (N (pickV block (z.blocks.length : Int)).toNat) 0) (z.blocks.getD (pickV block (z.blocks.length : Int)).toNat default).ins.length (cK (N (pickV block (z.blocks.length : Int)).toNat) 0)), (.int .i64 (z.blocks.getD (pickV block (z.blocks.length : Int)).toNat default).fin), (.int .i64 (z.blocks.getD (pickV block (z.blocks.length : Int)).toNat default).reg), (.int .i64 (z.blocks.getD (pickV block (z.blocks.length : Int)).toNat default).tgt), (.int .i64 (z.blocks.getD (pickV block (z.blocks.length : Int)).toNat default).els)] none false)], aJ] _ := ae
  have cJ := OS.len' an
  generalize aZ : aj.set (pickV block (z.blocks.length : Int)).toNat (⟨(aj.getD (pickV block (z.blocks.length : Int)).toNat default).ins, (aj.getD (pickV block (z.blocks.length : Int)).toNat default).fin, (aj.getD (pickV block (z.blocks.length : Int)).toNat default).reg, (aj.getD (pickV block (z.blocks.length : Int)).toNat default).tgt, (z.blocks.length : Int)⟩ : BlkT) = Y at an ⊢
  have cn : Y.length = aj.length := by rw [← aZ]; exact List.length_set
  refine wf_nil ?_
  refine wk_foc 2 rfl ?_
  have hly : y0.length = Y.length := by omega
  rw [hly] at ae an ⊢
  refine wk_region ?_
  refine wro 1 0 [(0, .o (.agg ⟨[(.int .i64 z.params), (.int .i64 z.regs), (.slice I z.blocks.length J)]⟩))] 82 82 [] [(82, (.agg ⟨[(.int .i64 z.params), (.int .i64 z.regs), (.slice I z.blocks.length J)]⟩))] (vA (qn 24 0 3 (HS.hc ae (i := 0) rfl) rfl rfl rfl rfl) trivial) (by kernel_rfl) rfl fun _ => ?_
  refine wo_call (ap_call rfl rfl rfl) rfl rfl (md.blocks_c 15 z (HS.call ae) (by first | (dsimp only; omega) | omega) (by first | (dsimp only; omega) | omega) aG hT (by first | exact fun j => Nat.le_trans (hins j) (by omega) | exact fun j => Nat.le_trans (hdi j) (by omega))) ?_
  rintro _ dt ⟨aq, aw, O, cY, dd, dF, dg, a4, av, rfl, az, cL, c8, c6⟩
  replace av := HS.back ae rfl av
  have av : HS _ _ _ [[(b6, .cells [(.int .i64 z.params), (.int .i64 z.regs), (.slice I z.blocks.length J)] none false)], [(T, .cells [(.int .i64 z.params), (.int .i64 z.regs), (.slice A Y.length E)] none false)], bu, [(ay, .cells [(.slice (cA (N (pickV block (z.blocks.length : Int)).toNat) 0) (z.blocks.getD (pickV block (z.blocks.length : Int)).toNat default).ins.length (cK (N (pickV block (z.blocks.length : Int)).toNat) 0)), (.int .i64 (z.blocks.getD (pickV block (z.blocks.length : Int)).toNat default).fin), (.int .i64 (z.blocks.getD (pickV block (z.blocks.length : Int)).toNat default).reg), (.int .i64 (z.blocks.getD (pickV block (z.blocks.length : Int)).toNat default).tgt), (.int .i64 (z.blocks.getD (pickV block (z.blocks.length : Int)).toNat default).els)] none false)], aJ] _ := av
  replace an := an.mono a4
  refine wro 5 2 [] 84 85 [13, 14, 81] [(13, (.slice aq O.length aw))] trivial (by kernel_rfl) rfl fun _ => ?_
  refine wo_end 2 rfl ?_
  have hsd := sub_chain (c := z) (k := (pickV block (z.blocks.length : Int)).toNat) (g := pickV reg z.regs) (t := pickV block (z.blocks.length : Int)) (y0 := y0) (y1 := ah) (y2 := ai) (y3 := aj) (y4 := Y) (by omega) (by omega) bf.symm aW.symm aX.symm aY.symm aZ.symm
  have hdv := sub_val hG.val (k := (pickV block (z.blocks.length : Int)).toNat) (g := pickV reg z.regs) (by omega) (by omega) (by omega) (by omega)
  have hdi := sub_ins (c := z) (k := (pickV block (z.blocks.length : Int)).toNat) (g := pickV reg z.regs) (by omega) hins
  rw [← hsd] at hdv hdi
  refine wk_region ?_
  refine wro 1 0 [(0, .o (.agg ⟨[(.int .i64 z.params), (.int .i64 z.regs), (.slice A Y.length E)]⟩))] 87 87 [] [(87, (.agg ⟨[(.int .i64 z.params), (.int .i64 z.regs), (.slice A Y.length E)]⟩))] (vA (qn 24 0 3 (HS.hc av (i := 1) rfl) rfl rfl rfl rfl) trivial) (by kernel_rfl) rfl fun _ => ?_
  obtain ⟨dh, a5, aU, bX, da⟩ := OS.frz an av (i := 2) rfl
  have aU : HS _ _ _ [_, _, [], _, _] _ := aU
  replace hT := (hT.mono a4).mono a5
  refine wo_call (ap_call rfl rfl rfl) rfl rfl (md.blocks_c 15 (⟨z.params, z.regs, Y⟩ : VFnT) (HS.call aU) (by first | (dsimp only; omega) | omega) (by first | (dsimp only; omega) | omega) bX hT (by first | exact fun j => Nat.le_trans (hins j) (by omega) | exact fun j => Nat.le_trans (hdi j) (by omega))) ?_
  rintro _ du ⟨ar, ax, U, cZ, de, dG, b9, a6, ap, rfl, aA, cM, c9, c7⟩
  replace ap := HS.back aU rfl ap
  have ap : HS _ _ _ [_, _, _, _, _] _ := ap
  refine wro 5 2 [] 89 90 [15, 16, 86] [(15, (.slice ar U.length ax))] trivial (by kernel_rfl) rfl fun _ => ?_
  refine wo_end 3 rfl ?_
  have bk : BkF z O _ := (by assumption : valV z = true → BkF z O _) hG.val
  have bc : BkF (⟨z.params, z.regs, Y⟩ : VFnT) U _ := (by assumption : valV (⟨z.params, z.regs, Y⟩ : VFnT) = true → BkF (⟨z.params, z.regs, Y⟩ : VFnT) U _) hdv
  rw [hsd] at bc
  have hlx := bk.lx
  have bm := bc.lx
  rw [sub_len] at bm
  have bw := vF_of (hsd ▸ hdv)
  refine wr 1 [(3, .o (.slice I z.blocks.length J)), (10, .o (.slice A Y.length E))] 91 104 [] [(104, (.bool (((O.length : Int) != (z.blocks.length : Int)) || ((U.length : Int) != (Y.length : Int)))))] (vA (ql 22 2 (HS.hc ap (i := 0) rfl) rfl rfl) (vA (fun (g1 : ((O.length : Int) != (z.blocks.length : Int)) = false) => (ql 22 2 (HS.hc ap (i := 1) rfl) rfl rfl)) trivial)) (by kernel_rfl) rfl fun _ => ?_
  refine wk_iff 3 (v := (((O.length : Int) != (z.blocks.length : Int)) || ((U.length : Int) != (Y.length : Int)))) rfl (by simp only [hlx, bm]; simp; omega) rfl rfl ?_
  refine wr 2 [] 1 0 [17] [(17, (.int .i64 0))] trivial (by kernel_rfl) rfl fun _ => ?_
  refine wk_loop_inv (fun (mm : Nat) f H' => ∃ (b : Nat) (F' : Fz), Fz.le b9 F' ∧ HS (Base.of H []) F' H' [[(b6, .cells [(.int .i64 z.params), (.int .i64 z.regs), (.slice I z.blocks.length J)] none false)], [(T, .cells [(.int .i64 z.params), (.int .i64 z.regs), (.slice A Y.length E)] none false)], [], [(ay, .cells [(.slice (cA (N (pickV block (z.blocks.length : Int)).toNat) 0) (z.blocks.getD (pickV block (z.blocks.length : Int)).toNat default).ins.length (cK (N (pickV block (z.blocks.length : Int)).toNat) 0)), (.int .i64 (z.blocks.getD (pickV block (z.blocks.length : Int)).toNat default).fin), (.int .i64 (z.blocks.getD (pickV block (z.blocks.length : Int)).toNat default).reg), (.int .i64 (z.blocks.getD (pickV block (z.blocks.length : Int)).toNat default).tgt), (.int .i64 (z.blocks.getD (pickV block (z.blocks.length : Int)).toNat default).els)] none false)], aJ] R ∧ agrees f [(13, (.slice aq O.length aw)), (15, (.slice ar U.length ax)), (17, (.int .i64 (b : Int)))] ∧ mm = O.length - b ∧ (b ≤ O.length)) _ ⟨0, _, (Fz.le_refl _), ap, (agC rfl (agC rfl (agC rfl agN))), rfl, (by first | assumption | omega | (simp at *; omega))⟩ ?_
  rintro df dA dw ⟨b, di, aB, ag, bl, rfl, hb⟩ b0
  refine wk_canon _ bl (fun _ => ?_)
  clear bl
  replace hT := (hT.mono a6).mono aB
  replace az := ((az.mono a5).mono a6).mono aB
  replace aA := aA.mono aB
  refine wk_foc 2 rfl ?_
  refine wr 1 [] 105 108 [] [(108, (.bool (decide ((b : Int) < (O.length : Int)))))] trivial (by kernel_rfl) rfl fun _ => ?_
  refine wk_if 4 5 (v := (decide ((b : Int) < (O.length : Int)))) rfl rfl rfl rfl (fun a3 => ?_) (fun a3 => ?_)
  ·
   have bh := a3
   try simp only [BS] at bh
   have hbn : b < O.length := by omega
   have hil := Int.le_trans (Lst.len (bk.hx b (by omega)) vF.regs.1 (fun r h => lin_lt vF h)) vF.regs.2
   have hnl := Int.le_trans (Lst.len (bc.hx b (by rw [sub_len]; omega)) bw.regs.1 (fun r h => lin_lt bw h)) bw.regs.2
   refine wf_region rfl ?_
   refine fm (.slice aq O.length aw) rfl rfl rfl ?_
   refine fm (.int .i64 (b : Int)) rfl rfl rfl ?_
   refine wf_pure (v := (.pointer (some ⟨sB (.slice aq O.length aw), sO (.slice aq O.length aw) + b * Rp.sz (List Int), none⟩))) (id := .v) (ap_idxV (α := (List Int)) (j := (b : Int)) rfl rfl rfl rfl (SR.sv az ag.log0) (by first | (dsimp only; omega) | omega) (by first | (dsimp only; omega) | omega)) rfl rfl (did_v rfl) (okD_v _) ?_
   obtain ⟨c0, bY, bP⟩ := Sv.at (SR.sv az ag.log0) (getD_at (x := default) (show b < O.length from by first | (dsimp only; omega) | omega))
   obtain ⟨bx, bH, rfl, bK⟩ := bY
   refine wf_pure (v := (.slice bx (O.getD b default).length bH)) (id := .l (sB (.slice aq O.length aw))) (ap_ld1 (i := 0) rfl rfl bP rfl rfl) rfl rfl (did_l rfl) (⟨.inl rfl, ⟨.inl rfl, ⟨.inl rfl, trivial⟩⟩⟩) ?_
   refine fm (.slice ar U.length ax) rfl rfl rfl ?_
   refine fm (.int .i64 (b : Int)) rfl rfl rfl ?_
   refine wf_pure (v := (.pointer (some ⟨sB (.slice ar U.length ax), sO (.slice ar U.length ax) + b * Rp.sz (List Int), none⟩))) (id := .v) (ap_idxV (α := (List Int)) (j := (b : Int)) rfl rfl rfl rfl (SR.sv aA ag.log0) (by first | (dsimp only; omega) | omega) (by first | (dsimp only; omega) | omega)) rfl rfl (did_v rfl) (okD_v _) ?_
   obtain ⟨c3, bZ, bQ⟩ := Sv.at (SR.sv aA ag.log0) (getD_at (x := default) (show b < U.length from by first | (dsimp only; omega) | omega))
   obtain ⟨bz, bJ, rfl, bL⟩ := bZ
   refine wf_pure (v := (.slice bz (U.getD b default).length bJ)) (id := .l (sB (.slice ar U.length ax))) (ap_ld1 (i := 0) rfl rfl bQ rfl rfl) rfl rfl (did_l rfl) (⟨.inl rfl, ⟨.inl rfl, ⟨.inl rfl, ⟨.inr trivial, ⟨.inr trivial, ⟨.inr trivial, ⟨.inr trivial, trivial⟩⟩⟩⟩⟩⟩⟩) ?_
   refine wf_call (W := []) (ap_call rfl rfl rfl) rfl rfl rfl (ma.minus_c 15 (O.getD b default) (U.getD b default) (HS.call ag.log0) bK bL hT (by first | (dsimp only; omega) | omega)) (⟨.inl rfl, ⟨.inl rfl, ⟨.inl rfl, ⟨.inl rfl, ⟨.inl rfl, ⟨.inl rfl, ⟨.inl rfl, ⟨.inl rfl, trivial⟩⟩⟩⟩⟩⟩⟩⟩) ?_
   rintro _ ci ⟨cX, db, dE, cy, dj, bO, ad, rfl, bG, rfl⟩
   refine ⟨Wr.did ad.log, fun b7 bF => ?_⟩
   replace ad := HS.back ag.log0 rfl ad
   replace ad := HS.lg ad ag bF
   generalize ({ ci with log := b7 } : Heap) = cU at ad ⊢
   have ad : HS _ _ _ [_, _, _, _, _, cy] _ := ad
   refine wf_pure (v := (.int .i64 ((minV (O.getD b default) (U.getD b default)).length : Int))) (id := .v) (ap_lenV (α := Int) rfl rfl (OS.sv bG ad.log0 (i := 5) rfl)) rfl rfl (did_len rfl) (okD_v _) ?_
   refine wf_pure (v := (.bool (decide ((0 : Int) < ((minV (O.getD b default) (U.getD b default)).length : Int))))) (id := .v) (ap_cmp rfl rfl rfl rfl) rfl rfl (did_v rfl) (okD_v _) ?_
   refine wf_nil ?_
   refine wk_foc 1 rfl ?_
   refine wk_iff 2 (v := (decide ((0 : Int) < ((minV (O.getD b default) (U.getD b default)).length : Int)))) rfl (by rw [min_nil (bk.hx b (by omega)) (bc.hx b (by rw [sub_len]; omega)) (fun r h => sub_lin vF (by omega) (by omega) h)]; simp) rfl rfl ?_
   refine wr 1 [] 109 110 [17] [(17, (.int .i64 ((b : Int) + 1)))] (vA (vi (n := (b : Int) + 1) (by first | (dsimp only; omega) | omega)) trivial) (by kernel_rfl) rfl fun _ => ?_
   refine b0 _ _ _ ?_ ⟨b + 1, _, (Fz.le_trans (aB) bO), (HS.sub ad (List.sublist_append_left _ _)), (agC rfl (agC rfl (agC rfl agN))), rfl, (by first | assumption | omega | (simp at *; omega))⟩
   omega
  ·
   have bh := a3
   try simp only [BS] at bh
   refine wr 1 [(0, .o (.bool true))] 8 8 [122] [(8, (.bool true))] (vA (ex_c_q 15 (HS.call ag) hT) trivial) (by kernel_rfl) rfl fun _ => ?_
   refine wk_ret ⟨.inr rfl, _, rfl, true, _, (Fz.le_trans (Fz.le_trans (Fz.le_trans (Fz.le_trans (bj) a4) a5) a6) aB), (HS.forget ag), rfl, (by first | rfl | omega | simp_all)⟩
end Go.Proofs.YtlabedbmgmfbaaaDoor.ls_
namespace Go.R
theorem Em.hs {w : World} {μ : Emb} {H : Heap} (h : Em w μ H) : HS (.of H []) H.get H [] [] :=
 ⟨fun b o hb => ⟨hb, h.lt hb⟩, fun p hp => by simp at hp, by simp, Nat.le_refl _, fun b hb => .inl hb, fun p hp => by simp at hp⟩
end Go.R
