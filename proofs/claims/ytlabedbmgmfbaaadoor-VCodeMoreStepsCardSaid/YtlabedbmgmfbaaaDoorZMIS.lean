/-
 One step of the interpreter of virtual code, by a symbolic run. No condition but that the table lies as laid.
-/
import Derived.Test.YtlabedbmgmfbaaaDoorZMIC
noncomputable section
namespace Go.Proofs.YtlabedbmgmfbaaaDoor.is_
open Go.R
set_option maxRecDepth 10000
set_option linter.unusedVariables false
open m1 m2 m3 m4 m5 m6 m7 m8 iw ia ib ic
theorem last_get {ps : List PtrT} {bt : PtrT} {n : Int} (h : n = (ps.length : Int)) : (ps ++ [bt]).getD n.toNat default = bt := by subst h; simp
theorem take_last {ps : List PtrT} {bt : PtrT} {n : Nat} (h : n = ps.length) : (ps ++ [bt]).take n = ps := by subst h; simp
theorem map_step {f : Int → Int} {l ag : List Int} {j : Nat} (h : ag = (l.take j).map f) (hj : j < l.length) : ag ++ [f (l.getD j 0)] = (l.take (j + 1)).map f := by
 rw [h, List.take_add_one, List.map_append, List.getD_eq_getElem?_getD, List.getElem?_eq_getElem hj]; rfl
theorem map_all {f : Int → Int} {l ag : List Int} {j : Nat} (h : ag = (l.take j).map f) (hj : l.length ≤ j) : ag = l.map f := by rw [h, List.take_of_length_le hj]
set_option maxHeartbeats 4000000 in
theorem step_c (ex : FuncId) {F : Fz} {H : Heap} {R : List Fp} {b : Nat} {la : Option Addr} {lk : Nat} {ca : Option Addr} {cn ck : Nat} {pa : Option Addr} {pn pk : Nat} {oa : Option Addr} {on ok : Nat} {q : Fp} {P : List VFnT} {nc N : Nat} (s : RunS) (hs : HS (.of H (b :: q.map Prod.fst)) F H [[(b, .cells [.slice la P.length lk, .slice ca cn ck, .slice pa pn pk, .int .i64 s.fuel, .bool s.over, .int .i64 s.kind, .int .i64 s.code, .slice oa on ok, .int .i64 s.val] none false)], q] R) (hq : RunQ F s ca cn ck pa pn pk oa on ok q) (hP : SR F (.slice la P.length lk) P) (hp : PrF P nc) (wf : RunOK P nc s N) (hil : ∀ c ∈ P, ∀ k, (c.blocks.getD k default).ins.length ≤ 1000000) (hN : N ≤ 1000000) : C Tryd.prog 1 (KT 60 ex 37 tabC) 72 [.pointer (some ⟨b, 0, none⟩)] H fun v H' => v = .tuple #[] ∧ RunP (.of H (b :: q.map Prod.fst)) F R P la lk b (bI P s) H' := by
 obtain ⟨hd, ps, bt, pc, pr, pp, pl, po, ba, bk, ra, rn, rk, aa, an, ak, pg, hsO, T, y2, y3, y4, V, y7, U, x2, Z⟩ := RunQ.open hq hs
 obtain rfl := OS.nlen T; obtain rfl := OS.nlen y3; obtain rfl := OS.nlen V; obtain rfl := OS.nlen x2
 have lan := SR.len' Z; subst lan
 have hC := wf.top; have hbk := hC.blk; have hat := hC.at_; have hrl := hC.regs; have hal := hC.args; have hto := hC.to_; have hcl := wf.cells; have hcnt := wf.cnt; have hfu := wf.fuel; have hps := FAM.len y4; have ri := FAM.len y2
 have hgr : ∀ n, in64 (bC s.top.regs n) := fun n => sv_in (OS.sv x2 hsO (i := 6) rfl) n
 have hlim := hp.lim _ hC.mem; have hmi := hil _ hC.mem s.top.blk.toNat; have hfx := vend_fx (b := (s.top.code.blocks.getD s.top.blk.toNat default)) (hC.fin hp) hlim.2.2.2.1
 have hpl : (ps ++ [bt]).length = ps.length + 1 := by simp
 clear hs hq
 refine aL Tryd.func72 rfl rfl ?_
 refine ay 1 rfl ?_
 obtain ⟨rf, oX⟩ := Sv.view (OS.sv y3 hsO (i := 3) rfl)
 refine wRD 2 [(3, .o (.slice pa (ps ++ [bt]).length pk)), (7, .o (.slice pa (ps ++ [bt]).length pk)), (11, .o (.pointer (some ⟨bt.b, 0, none⟩)))] 8 19 [2] [(2, (.pointer (some ⟨bt.b, 0, none⟩)))] (vA (ql 110 2 (hc0 (HS.hc hsO (i := 0) rfl)) rfl rfl) (vA (ql 110 2 (hc0 (HS.hc hsO (i := 0) rfl)) rfl rfl) (vA (vi (n := ((ps ++ [bt]).length : Int) - 1) (by first | omega | exact hgr _ | exact aj wf.rows _ | (dsimp only; omega))) (vA (Sv.ix (j := ((ps ++ [bt]).length : Int) - 1) (OS.sv y3 hsO (i := 3) rfl) (by first | omega | exact hgr _ | exact aj wf.rows _ | (dsimp only; omega)) (by first | omega | exact hgr _ | exact aj wf.rows _ | (dsimp only; omega))) (vA (ptq (show ((ps ++ [bt]).getD (((ps ++ [bt]).length : Int) - 1).toNat default) = bt from by exact last_get (by omega)) (ql 107 0 (hc0 (vP (oX (((ps ++ [bt]).length : Int) - 1).toNat) (by first | omega | exact hgr _ | exact aj wf.rows _ | (dsimp only; omega)))) rfl rfl)) trivial))))) rfl rfl fun _ => ?_
 refine aR rfl ?_
 refine fm (.pointer (some ⟨bt.b, 0, none⟩)) rfl rfl rfl ?_
 refine ai (v := (.pointer (some ⟨bt.b, 0, none⟩))) (id := .v) (bN rfl) rfl rfl (aI rfl) (aF _) ?_
 refine ai (v := (.pointer (some ⟨bt.b, 0, none⟩))) (id := .v) (bd rfl rfl) rfl rfl (aI rfl) (aF _) ?_
 refine ai (v := (.pointer (some ⟨bt.b, 2, none⟩))) (id := .v) (bd rfl rfl) rfl rfl (aI rfl) (aF _) ?_
 refine ai (v := (.slice ba s.top.code.blocks.length bk)) (id := .l bt.b) (aT (i := 2) rfl rfl (HS.hc hsO.log0 (i := 5) rfl) rfl rfl) rfl rfl (bn rfl) (⟨.inl rfl, ⟨.inl rfl, ⟨.inl rfl, ⟨.inl rfl, trivial⟩⟩⟩⟩) ?_
 refine fm (.pointer (some ⟨bt.b, 0, none⟩)) rfl rfl rfl ?_
 refine ai (v := (.pointer (some ⟨bt.b, 0, none⟩))) (id := .v) (bN rfl) rfl rfl (aI rfl) (aF _) ?_
 refine ai (v := (.pointer (some ⟨bt.b, 5, none⟩))) (id := .v) (bd rfl rfl) rfl rfl (aI rfl) (aF _) ?_
 refine ai (v := (iI s.top.blk)) (id := .l bt.b) (aT (i := 5) rfl rfl (HS.hc hsO.log0 (i := 5) rfl) rfl rfl) rfl rfl (bn rfl) (⟨.inl rfl, ⟨.inl rfl, ⟨.inl rfl, ⟨.inr trivial, ⟨.inr trivial, ⟨.inr trivial, ⟨.inr trivial, ⟨.inr trivial, trivial⟩⟩⟩⟩⟩⟩⟩⟩) ?_
 refine ai (v := (.pointer (some ⟨sB (.slice ba s.top.code.blocks.length bk), sO (.slice ba s.top.code.blocks.length bk) + s.top.blk.toNat * Rp.sz BlkT, none⟩))) (id := .v) (eI (α := BlkT) (j := s.top.blk) rfl rfl rfl rfl (SR.sv U hsO.log0) (by first | omega | exact hgr _ | exact aj wf.rows _ | (dsimp only; omega)) (by first | omega | exact hgr _ | exact aj wf.rows _ | (dsimp only; omega))) rfl rfl (aI rfl) (aF _) ?_
 obtain ⟨rg, oW, oU⟩ := Sv.at (SR.sv U hsO.log0) (dM (x := default) (show s.top.blk.toNat < s.top.code.blocks.length from by first | omega | exact hgr _ | exact aj wf.rows _ | (dsimp only; omega)))
 obtain ⟨fi, g3, rfl, qw, qx, qy, qz, lL⟩ := oW
 refine ai (v := (.agg ⟨[(.slice fi (s.top.code.blocks.getD s.top.blk.toNat default).ins.length g3), (iI (s.top.code.blocks.getD s.top.blk.toNat default).fin), (iI (s.top.code.blocks.getD s.top.blk.toNat default).reg), (iI (s.top.code.blocks.getD s.top.blk.toNat default).tgt), (iI (s.top.code.blocks.getD s.top.blk.toNat default).els)]⟩)) (id := .l (sB (.slice ba s.top.code.blocks.length bk))) (iM (i := 0) rfl rfl rfl oU rfl rfl rfl) rfl rfl (bn rfl) (⟨.inl rfl, ⟨.inl rfl, ⟨.inl rfl, ⟨.inl rfl, ⟨.inl rfl, ⟨.inl rfl, ⟨.inl rfl, ⟨.inl rfl, ⟨.inl rfl, ⟨.inl rfl, trivial⟩⟩⟩⟩⟩⟩⟩⟩⟩⟩) ?_
 refine dU (id := .a) (bX hsO.log0 rfl) rfl rfl (fun _ _ _ _ => iF rfl rfl rfl) (⟨.inr trivial, ⟨.inr trivial, ⟨.inr trivial, ⟨.inr trivial, ⟨.inr trivial, ⟨.inr trivial, ⟨.inr trivial, ⟨.inr trivial, ⟨.inr trivial, ⟨.inr trivial, ⟨.inr trivial, trivial⟩⟩⟩⟩⟩⟩⟩⟩⟩⟩⟩) ?_
 rintro _ H6 _ ⟨b5, rfl, hz, _⟩ oZ n4
 replace hz := HS.lg hz hsO n4
 generalize ({ H6 with log := oZ } : Heap) = q3 at hz ⊢
 let ez : Fp := [(b, .cells [(.slice la P.length lk), (.slice ca hd.length ck), (.slice pa (ps ++ [bt]).length pk), (iI s.fuel), (.bool s.over), (iI s.kind), (iI s.code), (.slice oa s.out.length ok), (iI s.val)] none false)]
 have hz : HS _ _ _ [ez, pc, pr, pp, pl, [(bt.b, .cells [(iI s.top.code.params), (iI s.top.code.regs), (.slice ba s.top.code.blocks.length bk), (.slice ra s.top.regs.length rk), (.slice aa s.top.args.length ak), (iI s.top.blk), (iI s.top.at_), (iI s.top.to_)] none false)], pg, po, [(b5, .cells [(.slice none 0 0), (iI 0), (iI 0), (iI 0), (iI 0)] none false)]] _ := hz
 refine jA (id := .x [b5]) (aC (q := 8) hz.log0 rfl rfl rfl rfl rfl rfl rfl rfl rfl) rfl (by rintro _ _ _ ⟨_, hwr⟩; exact ee rfl rfl (Wr.did hwr)) (⟨.inl rfl, ⟨.inl rfl, ⟨.inl rfl, ⟨.inl rfl, ⟨.inl rfl, ⟨.inl rfl, ⟨.inl rfl, ⟨.inl rfl, ⟨.inl rfl, ⟨.inl rfl, ⟨.inl rfl, ⟨.inl rfl, trivial⟩⟩⟩⟩⟩⟩⟩⟩⟩⟩⟩⟩) ?_
 rintro _ H7 _ ⟨a7, _⟩ o0 n5
 replace a7 := HS.lg a7 hz n5
 generalize ({ H7 with log := o0 } : Heap) = q4 at a7 ⊢
 let I : Fp := [(b5, .cells [(.slice fi (s.top.code.blocks.getD s.top.blk.toNat default).ins.length g3), (iI (s.top.code.blocks.getD s.top.blk.toNat default).fin), (iI (s.top.code.blocks.getD s.top.blk.toNat default).reg), (iI (s.top.code.blocks.getD s.top.blk.toNat default).tgt), (iI (s.top.code.blocks.getD s.top.blk.toNat default).els)] none false)]
 have a7 : HS _ _ _ [_, _, _, _, _, _, _, _, I] _ := a7
 refine bZ ?_
 refine ay 3 rfl ?_
 refine wRD 1 [(3, .o (iI s.top.at_)), (5, .o (.slice fi (s.top.code.blocks.getD s.top.blk.toNat default).ins.length g3))] 31 38 [] [(38, (.bool (s.top.at_ == ((s.top.code.blocks.getD s.top.blk.toNat default).ins.length : Int))))] (vA (ql 3 6 (hc0 (HS.hc a7 (i := 5) rfl)) rfl rfl) (vA (ql 40 0 (hc0 (HS.hc a7 (i := 8) rfl)) rfl rfl) trivial)) rfl rfl fun _ => ?_
 refine ao 1 2 (v := (s.top.at_ == ((s.top.code.blocks.getD s.top.blk.toNat default).ins.length : Int))) rfl rfl rfl rfl (fun c9 => ?_) (fun c9 => ?_)
 ·
  try simp only [BS] at c9
  refine ah ?_
  refine wRo 2 0 [] 39 40 [] [(39, (.pointer (some ⟨b, 0, none⟩))), (40, (.pointer (some ⟨bt.b, 0, none⟩)))] trivial rfl fun _ => ?_
  refine aJ (R := fun v H' => v = .tuple #[] ∧ RunP (.of H (b :: q.map Prod.fst)) F R P la lk b (bI P s) H') (ax rfl rfl rfl) rfl rfl ?_ ?_
  ·
   refine aL Tryd.func85 rfl rfl ?_
   refine ay 1 rfl ?_
   refine aR rfl ?_
   refine fm (.pointer (some ⟨bt.b, 0, none⟩)) rfl rfl rfl ?_
   refine ai (v := (.pointer (some ⟨bt.b, 0, none⟩))) (id := .v) (bN rfl) rfl rfl (aI rfl) (aF _) ?_
   refine ai (v := (.pointer (some ⟨bt.b, 0, none⟩))) (id := .v) (bd rfl rfl) rfl rfl (aI rfl) (aF _) ?_
   refine ai (v := (.pointer (some ⟨bt.b, 2, none⟩))) (id := .v) (bd rfl rfl) rfl rfl (aI rfl) (aF _) ?_
   refine ai (v := (.slice ba s.top.code.blocks.length bk)) (id := .l bt.b) (aT (i := 2) rfl rfl (HS.hc a7.log0 (i := 5) rfl) rfl rfl) rfl rfl (bn rfl) (⟨.inl rfl, ⟨.inl rfl, ⟨.inl rfl, ⟨.inl rfl, trivial⟩⟩⟩⟩) ?_
   refine fm (.pointer (some ⟨bt.b, 0, none⟩)) rfl rfl rfl ?_
   refine ai (v := (.pointer (some ⟨bt.b, 0, none⟩))) (id := .v) (bN rfl) rfl rfl (aI rfl) (aF _) ?_
   refine ai (v := (.pointer (some ⟨bt.b, 5, none⟩))) (id := .v) (bd rfl rfl) rfl rfl (aI rfl) (aF _) ?_
   refine ai (v := (iI s.top.blk)) (id := .l bt.b) (aT (i := 5) rfl rfl (HS.hc a7.log0 (i := 5) rfl) rfl rfl) rfl rfl (bn rfl) (⟨.inl rfl, ⟨.inl rfl, ⟨.inl rfl, ⟨.inr trivial, ⟨.inr trivial, ⟨.inr trivial, ⟨.inr trivial, ⟨.inr trivial, trivial⟩⟩⟩⟩⟩⟩⟩⟩) ?_
   refine ai (v := (.pointer (some ⟨sB (.slice ba s.top.code.blocks.length bk), sO (.slice ba s.top.code.blocks.length bk) + s.top.blk.toNat * Rp.sz BlkT, none⟩))) (id := .v) (eI (α := BlkT) (j := s.top.blk) rfl rfl rfl rfl (SR.sv U a7.log0) (by first | omega | exact hgr _ | exact aj wf.rows _ | (dsimp only; omega)) (by first | omega | exact hgr _ | exact aj wf.rows _ | (dsimp only; omega))) rfl rfl (aI rfl) (aF _) ?_
   obtain ⟨qs, n9, n1⟩ := Sv.at (SR.sv U a7.log0) (dM (x := default) (show s.top.blk.toNat < s.top.code.blocks.length from by first | omega | exact hgr _ | exact aj wf.rows _ | (dsimp only; omega)))
   obtain ⟨kv, kJ, rfl, pD, pE, pF, pG, pQ⟩ := n9
   refine ai (v := (.agg ⟨[(.slice kv (s.top.code.blocks.getD s.top.blk.toNat default).ins.length kJ), (iI (s.top.code.blocks.getD s.top.blk.toNat default).fin), (iI (s.top.code.blocks.getD s.top.blk.toNat default).reg), (iI (s.top.code.blocks.getD s.top.blk.toNat default).tgt), (iI (s.top.code.blocks.getD s.top.blk.toNat default).els)]⟩)) (id := .l (sB (.slice ba s.top.code.blocks.length bk))) (iM (i := 0) rfl rfl rfl n1 rfl rfl rfl) rfl rfl (bn rfl) (⟨.inl rfl, ⟨.inl rfl, ⟨.inl rfl, ⟨.inl rfl, ⟨.inl rfl, ⟨.inl rfl, ⟨.inl rfl, ⟨.inl rfl, ⟨.inl rfl, ⟨.inl rfl, trivial⟩⟩⟩⟩⟩⟩⟩⟩⟩⟩) ?_
   refine dU (id := .a) (bX a7.log0 rfl) rfl rfl (fun _ _ _ _ => iF rfl rfl rfl) (⟨.inr trivial, ⟨.inr trivial, ⟨.inr trivial, ⟨.inr trivial, ⟨.inr trivial, ⟨.inr trivial, ⟨.inr trivial, ⟨.inr trivial, ⟨.inr trivial, ⟨.inr trivial, ⟨.inr trivial, trivial⟩⟩⟩⟩⟩⟩⟩⟩⟩⟩⟩) ?_
   rintro _ oE _ ⟨kQ, rfl, f2, _⟩ oj lZ
   replace f2 := HS.lg f2 a7 lZ
   generalize ({ oE with log := oj } : Heap) = p6 at f2 ⊢
   have f2 : HS _ _ _ [_, _, _, _, _, _, _, _, _, [(kQ, .cells [(.slice none 0 0), (iI 0), (iI 0), (iI 0), (iI 0)] none false)]] _ := f2
   refine jA (id := .x [kQ]) (aC (q := 9) f2.log0 rfl rfl rfl rfl rfl rfl rfl rfl rfl) rfl (by rintro _ _ _ ⟨_, hwr⟩; exact ee rfl rfl (Wr.did hwr)) (⟨.inl rfl, ⟨.inl rfl, ⟨.inl rfl, ⟨.inl rfl, ⟨.inl rfl, ⟨.inl rfl, ⟨.inl rfl, ⟨.inl rfl, ⟨.inl rfl, ⟨.inl rfl, ⟨.inl rfl, ⟨.inl rfl, trivial⟩⟩⟩⟩⟩⟩⟩⟩⟩⟩⟩⟩) ?_
   rintro _ oF _ ⟨J, _⟩ ol l0
   replace J := HS.lg J f2 l0
   generalize ({ oF with log := ol } : Heap) = h4 at J ⊢
   let e0 : Fp := [(kQ, .cells [(.slice kv (s.top.code.blocks.getD s.top.blk.toNat default).ins.length kJ), (iI (s.top.code.blocks.getD s.top.blk.toNat default).fin), (iI (s.top.code.blocks.getD s.top.blk.toNat default).reg), (iI (s.top.code.blocks.getD s.top.blk.toNat default).tgt), (iI (s.top.code.blocks.getD s.top.blk.toNat default).els)] none false)]
   have J : HS _ _ _ [_, _, _, _, _, _, _, _, _, e0] _ := J
   refine bZ ?_
   refine ay 2 rfl ?_
   refine wR 3 [(1, .o (iI (s.top.code.blocks.getD s.top.blk.toNat default).fin))] 17 18 [] [(18, (iI (s.top.code.blocks.getD s.top.blk.toNat default).fin))] (vA (ql 3 1 (HS.hc J (i := 9) rfl) rfl rfl) trivial) rfl fun _ => ?_
   refine wR 1 [] 23 24 [] [(23, (.bool ((s.top.code.blocks.getD s.top.blk.toNat default).fin == 1)))] trivial rfl fun _ => ?_
   refine ao 0 1 (v := ((s.top.code.blocks.getD s.top.blk.toNat default).fin == 1)) rfl rfl rfl rfl (fun kS => ?_) (fun kS => ?_)
   ·
    try simp only [BS] at kS
    refine ah ?_
    refine wRo 6 0 [(3, .o (iI (s.top.code.blocks.getD s.top.blk.toNat default).tgt))] 25 30 [] [(26, (.pointer (some ⟨bt.b, 0, none⟩))), (28, (iI (s.top.code.blocks.getD s.top.blk.toNat default).tgt)), (30, (.pointer (some ⟨bt.b, 5, none⟩)))] (vA (ql 3 3 (HS.hc J (i := 9) rfl) rfl rfl) trivial) rfl fun _ => ?_
    refine aN (aC (q := 5) J rfl rfl rfl rfl rfl rfl rfl rfl rfl) rfl ?_
    rintro _ qS _ ⟨kb, _⟩
    have kb : HS _ _ _ [_, _, _, _, _, [(bt.b, .cells [(iI s.top.code.params), (iI s.top.code.regs), (.slice ba s.top.code.blocks.length bk), (.slice ra s.top.regs.length rk), (.slice aa s.top.args.length ak), (iI (s.top.code.blocks.getD s.top.blk.toNat default).tgt), (iI s.top.at_), (iI s.top.to_)] none false)], _, _, _, _] _ := kb
    refine wRo 2 7 [] 31 32 [] [(32, (.pointer (some ⟨bt.b, 6, none⟩)))] trivial rfl fun _ => ?_
    refine aN (aC (q := 5) kb rfl rfl rfl rfl rfl rfl rfl rfl rfl) rfl ?_
    rintro _ qT _ ⟨kd, _⟩
    have kd : HS _ _ _ [_, _, _, _, _, [(bt.b, .cells [(iI s.top.code.params), (iI s.top.code.regs), (.slice ba s.top.code.blocks.length bk), (.slice ra s.top.regs.length rk), (.slice aa s.top.args.length ak), (iI (s.top.code.blocks.getD s.top.blk.toNat default).tgt), (iI 0), (iI s.top.to_)] none false)], _, _, _, _] _ := kd
    refine au 1 rfl ?_
    exact aA ⟨.inl rfl, _, rfl, rfl, RunP.mk (bt := bt) (L := [I, e0]) (by unfold bI; dsimp only [fu, fC, cb]; (repeat (first | rw [if_pos (by omega)] | rw [if_neg (by omega)] | rw [if_pos hlow] | rw [if_neg hlow] | (unfold cG; dsimp only [goT, az]) | (unfold f4; dsimp only [az]) | (unfold fY; dsimp only [ct, az]) | (unfold fQ; dsimp only [ct, az]) | (unfold cP; dsimp only [az]))); first | done | rfl | rw [hmap]) kd fR T y2 y3 y4 V y7 U x2 Z⟩
   ·
    try simp only [BS] at kS
    refine wR 1 [] 33 34 [] [(33, (.bool ((s.top.code.blocks.getD s.top.blk.toNat default).fin == 2)))] trivial rfl fun _ => ?_
    refine ao 2 1 (v := ((s.top.code.blocks.getD s.top.blk.toNat default).fin == 2)) rfl rfl rfl rfl (fun kT => ?_) (fun kT => ?_)
    ·
     try simp only [BS] at kT
     refine wR 1 [(2, .o (iI (s.top.code.blocks.getD s.top.blk.toNat default).reg)), (3, .o (iI (bC s.top.regs (s.top.code.blocks.getD s.top.blk.toNat default).reg)))] 35 39 [] [(39, (.bool (bC s.top.regs (s.top.code.blocks.getD s.top.blk.toNat default).reg != 0)))] (vA (ql 3 2 (HS.hc J (i := 9) rfl) rfl rfl) (vA (ic.eB ex s.top.regs (s.top.code.blocks.getD s.top.blk.toNat default).reg h4 (HS.hc J (i := 5) rfl) (OS.sv x2 J (i := 6) rfl) (by first | omega | exact hgr _ | exact aj wf.rows _ | (dsimp only; omega)) (by first | omega | exact hgr _ | exact aj wf.rows _ | (dsimp only; omega))) trivial)) rfl fun _ => ?_
     refine ao 0 0 (v := (bC s.top.regs (s.top.code.blocks.getD s.top.blk.toNat default).reg != 0)) rfl rfl rfl rfl (fun kU => ?_) (fun kU => ?_)
     ·
      try simp only [BS] at kU
      refine ah ?_
      refine wRo 5 0 [(2, .o (iI (s.top.code.blocks.getD s.top.blk.toNat default).tgt))] 40 44 [] [(42, (iI (s.top.code.blocks.getD s.top.blk.toNat default).tgt)), (44, (.pointer (some ⟨bt.b, 5, none⟩)))] (vA (ql 3 3 (HS.hc J (i := 9) rfl) rfl rfl) trivial) rfl fun _ => ?_
      refine aN (aC (q := 5) J rfl rfl rfl rfl rfl rfl rfl rfl rfl) rfl ?_
      rintro _ qU _ ⟨ke, _⟩
      have ke : HS _ _ _ [_, _, _, _, _, [(bt.b, .cells [(iI s.top.code.params), (iI s.top.code.regs), (.slice ba s.top.code.blocks.length bk), (.slice ra s.top.regs.length rk), (.slice aa s.top.args.length ak), (iI (s.top.code.blocks.getD s.top.blk.toNat default).tgt), (iI s.top.at_), (iI s.top.to_)] none false)], _, _, _, _] _ := ke
      refine au 1 rfl ?_
      refine ah ?_
      refine wRo 3 0 [] 50 52 [] [(52, (.pointer (some ⟨bt.b, 6, none⟩)))] trivial rfl fun _ => ?_
      refine aN (aC (q := 5) ke rfl rfl rfl rfl rfl rfl rfl rfl rfl) rfl ?_
      rintro _ qV _ ⟨kf, _⟩
      have kf : HS _ _ _ [_, _, _, _, _, [(bt.b, .cells [(iI s.top.code.params), (iI s.top.code.regs), (.slice ba s.top.code.blocks.length bk), (.slice ra s.top.regs.length rk), (.slice aa s.top.args.length ak), (iI (s.top.code.blocks.getD s.top.blk.toNat default).tgt), (iI 0), (iI s.top.to_)] none false)], _, _, _, _] _ := kf
      refine au 1 rfl ?_
      exact aA ⟨.inl rfl, _, rfl, rfl, RunP.mk (bt := bt) (L := [I, e0]) (by unfold bI; dsimp only [fu, fC, cb]; (repeat (first | rw [if_pos (by omega)] | rw [if_neg (by omega)] | rw [if_pos hlow] | rw [if_neg hlow] | (unfold cG; dsimp only [goT, az]) | (unfold f4; dsimp only [az]) | (unfold fY; dsimp only [ct, az]) | (unfold fQ; dsimp only [ct, az]) | (unfold cP; dsimp only [az]))); first | done | rfl | rw [hmap]) kf fR T y2 y3 y4 V y7 U x2 Z⟩
     ·
      try simp only [BS] at kU
      refine ah ?_
      refine wRo 5 0 [(2, .o (iI (s.top.code.blocks.getD s.top.blk.toNat default).els))] 45 49 [] [(47, (iI (s.top.code.blocks.getD s.top.blk.toNat default).els)), (49, (.pointer (some ⟨bt.b, 5, none⟩)))] (vA (ql 3 4 (HS.hc J (i := 9) rfl) rfl rfl) trivial) rfl fun _ => ?_
      refine aN (aC (q := 5) J rfl rfl rfl rfl rfl rfl rfl rfl rfl) rfl ?_
      rintro _ qW _ ⟨kg, _⟩
      have kg : HS _ _ _ [_, _, _, _, _, [(bt.b, .cells [(iI s.top.code.params), (iI s.top.code.regs), (.slice ba s.top.code.blocks.length bk), (.slice ra s.top.regs.length rk), (.slice aa s.top.args.length ak), (iI (s.top.code.blocks.getD s.top.blk.toNat default).els), (iI s.top.at_), (iI s.top.to_)] none false)], _, _, _, _] _ := kg
      refine au 1 rfl ?_
      refine ah ?_
      refine wRo 3 0 [] 50 52 [] [(52, (.pointer (some ⟨bt.b, 6, none⟩)))] trivial rfl fun _ => ?_
      refine aN (aC (q := 5) kg rfl rfl rfl rfl rfl rfl rfl rfl rfl) rfl ?_
      rintro _ qX _ ⟨kh, _⟩
      have kh : HS _ _ _ [_, _, _, _, _, [(bt.b, .cells [(iI s.top.code.params), (iI s.top.code.regs), (.slice ba s.top.code.blocks.length bk), (.slice ra s.top.regs.length rk), (.slice aa s.top.args.length ak), (iI (s.top.code.blocks.getD s.top.blk.toNat default).els), (iI 0), (iI s.top.to_)] none false)], _, _, _, _] _ := kh
      refine au 1 rfl ?_
      exact aA ⟨.inl rfl, _, rfl, rfl, RunP.mk (bt := bt) (L := [I, e0]) (by unfold bI; dsimp only [fu, fC, cb]; (repeat (first | rw [if_pos (by omega)] | rw [if_neg (by omega)] | rw [if_pos hlow] | rw [if_neg hlow] | (unfold cG; dsimp only [goT, az]) | (unfold f4; dsimp only [az]) | (unfold fY; dsimp only [ct, az]) | (unfold fQ; dsimp only [ct, az]) | (unfold cP; dsimp only [az]))); first | done | rfl | rw [hmap]) kh fR T y2 y3 y4 V y7 U x2 Z⟩
    ·
     try simp only [BS] at kT
     refine wR 1 [] 53 54 [] [(53, (.bool ((s.top.code.blocks.getD s.top.blk.toNat default).fin == 3)))] trivial rfl fun _ => ?_
     refine ao 1 0 (v := ((s.top.code.blocks.getD s.top.blk.toNat default).fin == 3)) rfl rfl rfl rfl (fun kV => ?_) (fun kV => ?_)
     ·
      try simp only [BS] at kV
      refine wR 3 [(2, .o (iI (s.top.code.blocks.getD s.top.blk.toNat default).reg)), (3, .o (iI (bC s.top.regs (s.top.code.blocks.getD s.top.blk.toNat default).reg)))] 55 58 [5] [(5, (iI (bC s.top.regs (s.top.code.blocks.getD s.top.blk.toNat default).reg)))] (vA (ql 3 2 (HS.hc J (i := 9) rfl) rfl rfl) (vA (ic.eB ex s.top.regs (s.top.code.blocks.getD s.top.blk.toNat default).reg h4 (HS.hc J (i := 5) rfl) (OS.sv x2 J (i := 6) rfl) (by first | omega | exact hgr _ | exact aj wf.rows _ | (dsimp only; omega)) (by first | omega | exact hgr _ | exact aj wf.rows _ | (dsimp only; omega))) trivial)) rfl fun _ => ?_
      refine wR 1 [(3, .o (.slice pa (ps ++ [bt]).length pk))] 59 64 [] [(64, (.bool (((ps ++ [bt]).length : Int) == 1)))] (vA (ql 110 2 (HS.hc J (i := 0) rfl) rfl rfl) trivial) rfl fun _ => ?_
      refine ao 1 2 (v := (((ps ++ [bt]).length : Int) == 1)) rfl rfl rfl rfl (fun kW => ?_) (fun kW => ?_)
      ·
       try simp only [BS] at kW
       have hlow : s.low = [] := List.eq_nil_of_length_eq_zero (by omega)
       refine ah ?_
       refine wRo 2 0 [] 65 66 [] [(65, (.pointer (some ⟨b, 0, none⟩))), (66, (iI (bC s.top.regs (s.top.code.blocks.getD s.top.blk.toNat default).reg)))] trivial rfl fun _ => ?_
       refine aJ (ax rfl rfl rfl) rfl rfl (i5 ex (1) (0) (bC s.top.regs (s.top.code.blocks.getD s.top.blk.toNat default).reg) (HS.callOwn J (i := 0) rfl)) ?_
       rintro _ qY ⟨hx, rfl⟩
       replace hx := HS.backOwn J (i := 0) rfl rfl (fun _ hb => hb) hx
       have hx : HS _ _ _ [[(b, .cells [(.slice la P.length lk), (.slice ca hd.length ck), (.slice pa (ps ++ [bt]).length pk), (iI s.fuel), (.bool true), (iI 1), (iI 0), (.slice oa s.out.length ok), (iI (bC s.top.regs (s.top.code.blocks.getD s.top.blk.toNat default).reg))] none false)], pc, pr, pp, pl, [(bt.b, .cells [(iI s.top.code.params), (iI s.top.code.regs), (.slice ba s.top.code.blocks.length bk), (.slice ra s.top.regs.length rk), (.slice aa s.top.args.length ak), (iI s.top.blk), (iI s.top.at_), (iI s.top.to_)] none false)], pg, po, I, e0] _ := hx
       refine au 1 rfl ?_
       exact am ⟨.inr rfl, _, rfl, rfl, RunP.mk (bt := bt) (L := [I, e0]) (by unfold bI; dsimp only [fu, fC, cb]; (repeat (first | rw [if_pos (by omega)] | rw [if_neg (by omega)] | rw [if_pos hlow] | rw [if_neg hlow] | (unfold cG; dsimp only [goT, az]) | (unfold f4; dsimp only [az]) | (unfold fY; dsimp only [ct, az]) | (unfold fQ; dsimp only [ct, az]) | (unfold cP; dsimp only [az]))); first | done | rfl | rw [hmap]) hx fR T y2 y3 y4 V (by first | exact hgr _ | exact ⟨by decide, by decide⟩ | omega) U x2 Z⟩
      ·
       try simp only [BS] at kW
       have hlow : s.low ≠ [] := fun e => by have := congrArg List.length e; simp only [List.length_nil] at this; omega
       refine aR rfl ?_
       refine fm (.pointer (some ⟨b, 0, none⟩)) rfl rfl rfl ?_
       refine fm (.pointer (some ⟨b, 0, none⟩)) rfl rfl rfl ?_
       refine ai (v := (.pointer (some ⟨b, 0, none⟩))) (id := .v) (bN rfl) rfl rfl (aI rfl) (aF _) ?_
       refine ai (v := (.pointer (some ⟨b, 2, none⟩))) (id := .v) (bd rfl rfl) rfl rfl (aI rfl) (aF _) ?_
       refine ai (v := (.slice pa (ps ++ [bt]).length pk)) (id := .l b) (aT (i := 2) rfl rfl (HS.hc J.log0 (i := 0) rfl) rfl rfl) rfl rfl (bn rfl) (⟨.inl rfl, ⟨.inl rfl, ⟨.inl rfl, ⟨.inr trivial, trivial⟩⟩⟩⟩) ?_
       refine fm (.pointer (some ⟨b, 0, none⟩)) rfl rfl rfl ?_
       refine ai (v := (.pointer (some ⟨b, 0, none⟩))) (id := .v) (bN rfl) rfl rfl (aI rfl) (aF _) ?_
       refine ai (v := (.pointer (some ⟨b, 2, none⟩))) (id := .v) (bd rfl rfl) rfl rfl (aI rfl) (aF _) ?_
       refine ai (v := (.slice pa (ps ++ [bt]).length pk)) (id := .l b) (aT (i := 2) rfl rfl (HS.hc J.log0 (i := 0) rfl) rfl rfl) rfl rfl (bn rfl) (⟨.inl rfl, ⟨.inl rfl, ⟨.inl rfl, ⟨.inr trivial, ⟨.inr trivial, ⟨.inr trivial, ⟨.inr trivial, ⟨.inr trivial, trivial⟩⟩⟩⟩⟩⟩⟩⟩) ?_
       refine ai (v := (iI ((ps ++ [bt]).length : Int))) (id := .v) (jZ (α := PtrT) rfl rfl (OS.sv y3 J.log0 (i := 3) rfl)) rfl rfl (jP rfl) (aF _) ?_
       refine ai (v := (iI (((ps ++ [bt]).length : Int) - 1))) (id := .v) (ap_sub rfl rfl (w_i64 (n := ((ps ++ [bt]).length : Int) - 1) (by first | omega | exact hgr _ | exact aj wf.rows _ | (dsimp only; omega)))) rfl rfl (aI rfl) (aF _) ?_
       refine dU (id := .r) (rs_cutOt (α := PtrT) (j := (((ps ++ [bt]).length : Int) - 1).toNat) y3 J.log0 (q := 3) rfl rfl rfl rfl (optN (by first | omega | exact hgr _ | exact aj wf.rows _ | (dsimp only; omega))) (by first | omega | exact hgr _ | exact aj wf.rows _ | (dsimp only; omega))) rfl rfl (by rintro _ _ _ ⟨_, _, _, hH, _⟩; simp only at hH; subst hH; exact did_r fun b hb => absurd hb List.not_mem_nil) (⟨.inl rfl, ⟨.inl rfl, ⟨.inl rfl, ⟨.inl rfl, ⟨.inl rfl, ⟨.inl rfl, ⟨.inl rfl, ⟨.inl rfl, ⟨.inl rfl, ⟨.inl rfl, ⟨.inr trivial, trivial⟩⟩⟩⟩⟩⟩⟩⟩⟩⟩⟩) ?_
       rintro _ _ _ ⟨hw, hB, rfl, hG, f1⟩ om l1
       simp only at hG; replace hG := hG.symm; subst hG
       have ki := HS.lg J.log0 J l1
       generalize ({ { h4 with log := [] } with log := om } : Heap) = qa at ki ⊢
       refine ai (v := (.pointer (some ⟨b, 0, none⟩))) (id := .v) (bN rfl) rfl rfl (aI rfl) (aF _) ?_
       refine ai (v := (.pointer (some ⟨b, 2, none⟩))) (id := .v) (bd rfl rfl) rfl rfl (aI rfl) (aF _) ?_
       refine jA (id := .x [b]) (aC (q := 0) ki.log0 rfl rfl rfl rfl rfl rfl rfl rfl rfl) rfl (by rintro _ _ _ ⟨_, hwr⟩; exact ee rfl rfl (Wr.did hwr)) (⟨.inl rfl, ⟨.inl rfl, ⟨.inl rfl, ⟨.inl rfl, ⟨.inl rfl, ⟨.inl rfl, ⟨.inl rfl, ⟨.inl rfl, ⟨.inl rfl, ⟨.inl rfl, ⟨.inl rfl, ⟨.inl rfl, ⟨.inl rfl, ⟨.inl rfl, trivial⟩⟩⟩⟩⟩⟩⟩⟩⟩⟩⟩⟩⟩⟩) ?_
       rintro _ oG _ ⟨hh, _⟩ oo l2
       replace hh := HS.lg hh ki l2
       generalize ({ oG with log := oo } : Heap) = qb at hh ⊢
       have hh : HS _ _ _ [[(b, .cells [(.slice la P.length lk), (.slice ca hd.length ck), (.slice hw ((ps ++ [bt]).take (((ps ++ [bt]).length : Int) - 1).toNat).length hB), (iI s.fuel), (.bool s.over), (iI s.kind), (iI s.code), (.slice oa s.out.length ok), (iI s.val)] none false)], _, _, _, _, _, _, _, _, _] _ := hh
       refine bZ ?_
       refine ay 1 rfl ?_
       obtain ⟨a8, a0, lG, nK, ky, kz, nL, ru, nM, kw, re, kx, e2, hsW, z4, z1, z2, z3⟩ := pool_pop y4 hlow hh rfl
       obtain rfl := OS.nlen z2; have oi := SR.len' z3; subst oi
       have e3 : (ps ++ [bt]).take (((ps ++ [bt]).length : Int) - 1).toNat = a8 ++ [a0] := (take_last (by omega)).trans e2
       rw [e3] at hsW f1
       have qC : (a8 ++ [a0]).length = a8.length + 1 := by simp
       have qD := congrArg List.length e2
       have rl := (wf.low _ (last_mem hlow)).regs
       let kr : Fp := [(b, .cells [(.slice la P.length lk), (.slice ca hd.length ck), (.slice hw (a8 ++ [a0]).length hB), (iI s.fuel), (.bool s.over), (iI s.kind), (iI s.code), (.slice oa s.out.length ok), (iI s.val)] none false)]
       have hsW : HS _ _ _ [kr, pc, pr, pp, lG, [(bt.b, .cells [(iI s.top.code.params), (iI s.top.code.regs), (.slice ba s.top.code.blocks.length bk), (.slice ra s.top.regs.length rk), (.slice aa s.top.args.length ak), (iI s.top.blk), (iI s.top.at_), (iI s.top.to_)] none false)], pg, po, I, e0, [(a0.b, .cells [(iI (s.low.getLastD default).code.params), (iI (s.low.getLastD default).code.regs), (.slice ky (s.low.getLastD default).code.blocks.length kz), (.slice nL (s.low.getLastD default).regs.length nM), (.slice kw (s.low.getLastD default).args.length kx), (iI (s.low.getLastD default).blk), (iI (s.low.getLastD default).at_), (iI (s.low.getLastD default).to_)] none false)], nK] _ := hsW
       refine aR rfl ?_
       refine fm (.pointer (some ⟨b, 0, none⟩)) rfl rfl rfl ?_
       refine ai (v := (.pointer (some ⟨b, 0, none⟩))) (id := .v) (bN rfl) rfl rfl (aI rfl) (aF _) ?_
       refine ai (v := (.pointer (some ⟨b, 2, none⟩))) (id := .v) (bd rfl rfl) rfl rfl (aI rfl) (aF _) ?_
       refine ai (v := (.slice hw (a8 ++ [a0]).length hB)) (id := .l b) (aT (i := 2) rfl rfl (HS.hc hsW.log0 (i := 0) rfl) rfl rfl) rfl rfl (bn rfl) (⟨.inl rfl, ⟨.inl rfl, ⟨.inl rfl, trivial⟩⟩⟩) ?_
       refine fm (.pointer (some ⟨b, 0, none⟩)) rfl rfl rfl ?_
       refine ai (v := (.pointer (some ⟨b, 0, none⟩))) (id := .v) (bN rfl) rfl rfl (aI rfl) (aF _) ?_
       refine ai (v := (.pointer (some ⟨b, 2, none⟩))) (id := .v) (bd rfl rfl) rfl rfl (aI rfl) (aF _) ?_
       refine ai (v := (.slice hw (a8 ++ [a0]).length hB)) (id := .l b) (aT (i := 2) rfl rfl (HS.hc hsW.log0 (i := 0) rfl) rfl rfl) rfl rfl (bn rfl) (⟨.inl rfl, ⟨.inl rfl, ⟨.inl rfl, ⟨.inr trivial, ⟨.inr trivial, ⟨.inr trivial, ⟨.inr trivial, trivial⟩⟩⟩⟩⟩⟩⟩) ?_
       refine ai (v := (iI ((a8 ++ [a0]).length : Int))) (id := .v) (jZ (α := PtrT) rfl rfl (OS.sv f1 hsW.log0 (i := 3) rfl)) rfl rfl (jP rfl) (aF _) ?_
       refine ai (v := (iI (((a8 ++ [a0]).length : Int) - 1))) (id := .v) (ap_sub rfl rfl (w_i64 (n := ((a8 ++ [a0]).length : Int) - 1) (by first | omega | exact hgr _ | exact aj wf.rows _ | (dsimp only; omega)))) rfl rfl (aI rfl) (aF _) ?_
       refine ai (v := (.pointer (some ⟨sB (.slice hw (a8 ++ [a0]).length hB), sO (.slice hw (a8 ++ [a0]).length hB) + (((a8 ++ [a0]).length : Int) - 1).toNat * Rp.sz PtrT, none⟩))) (id := .v) (eI (α := PtrT) (j := ((a8 ++ [a0]).length : Int) - 1) rfl rfl rfl rfl (OS.sv f1 hsW.log0 (i := 3) rfl) (by first | omega | exact hgr _ | exact aj wf.rows _ | (dsimp only; omega)) (by first | omega | exact hgr _ | exact aj wf.rows _ | (dsimp only; omega))) rfl rfl (aI rfl) (aF _) ?_
       obtain ⟨qq, og⟩ := Sv.view (OS.sv f1 hsW.log0 (i := 3) rfl)
       refine ai (v := (.pointer (some ⟨a0.b, 0, none⟩))) (id := .l (sB (.slice hw (a8 ++ [a0]).length hB))) (aT (i := 0) rfl rfl (hcq (show ((a8 ++ [a0]).getD (((a8 ++ [a0]).length : Int) - 1).toNat default) = a0 from by exact last_get (by omega)) (vP (og (((a8 ++ [a0]).length : Int) - 1).toNat) (by first | omega | exact hgr _ | exact aj wf.rows _ | (dsimp only; omega)))) rfl rfl) rfl rfl (bn rfl) (⟨.inl rfl, ⟨.inl rfl, ⟨.inl rfl, ⟨.inl rfl, ⟨.inl rfl, ⟨.inl rfl, ⟨.inl rfl, ⟨.inl rfl, ⟨.inl rfl, ⟨.inl rfl, ⟨.inl rfl, trivial⟩⟩⟩⟩⟩⟩⟩⟩⟩⟩⟩) ?_
       refine fm (.pointer (some ⟨bt.b, 0, none⟩)) rfl rfl rfl ?_
       refine ai (v := (.pointer (some ⟨bt.b, 0, none⟩))) (id := .v) (bN rfl) rfl rfl (aI rfl) (aF _) ?_
       refine ai (v := (.pointer (some ⟨bt.b, 7, none⟩))) (id := .v) (bd rfl rfl) rfl rfl (aI rfl) (aF _) ?_
       refine ai (v := (iI s.top.to_)) (id := .l bt.b) (aT (i := 7) rfl rfl (HS.hc hsW.log0 (i := 5) rfl) rfl rfl) rfl rfl (bn rfl) (⟨.inl rfl, ⟨.inl rfl, ⟨.inl rfl, ⟨.inr trivial, ⟨.inr trivial, ⟨.inr trivial, ⟨.inr trivial, ⟨.inr trivial, ⟨.inr trivial, ⟨.inr trivial, ⟨.inr trivial, ⟨.inr trivial, ⟨.inr trivial, ⟨.inr trivial, ⟨.inr trivial, trivial⟩⟩⟩⟩⟩⟩⟩⟩⟩⟩⟩⟩⟩⟩⟩) ?_
       refine fm (iI (bC s.top.regs (s.top.code.blocks.getD s.top.blk.toNat default).reg)) rfl rfl rfl ?_
       refine a9 (W := ((([(a0.b, .cells [(iI (s.low.getLastD default).code.params), (iI (s.low.getLastD default).code.regs), (.slice ky (s.low.getLastD default).code.blocks.length kz), (.slice nL (s.low.getLastD default).regs.length nM), (.slice kw (s.low.getLastD default).args.length kx), (iI (s.low.getLastD default).blk), (iI (s.low.getLastD default).at_), (iI (s.low.getLastD default).to_)] none false)] : Fp) ++ nK).map Prod.fst)) (ax rfl rfl rfl) rfl rfl rfl (ii ex (s.low.getLastD default).regs s.top.to_ (bC s.top.regs (s.top.code.blocks.getD s.top.blk.toNat default).reg) (HS.call2 hsW.log0 (i := 10) (j := 11) (by decide) rfl rfl) z2 (by first | omega | exact hgr _ | exact aj wf.rows _ | (dsimp only; omega)) (by first | omega | exact hgr _ | exact aj wf.rows _ | (dsimp only; omega)) (by first | omega | exact hgr _ | exact dO (hgr _) | exact en | exact cx _)) (⟨.inl rfl, ⟨.inl rfl, ⟨.inl rfl, ⟨.inl rfl, ⟨.inl rfl, ⟨.inl rfl, ⟨.inl rfl, ⟨.inl rfl, ⟨.inl rfl, ⟨.inl rfl, ⟨.inl rfl, ⟨.inl rfl, ⟨.inl rfl, ⟨.inl rfl, ⟨.inl rfl, ⟨.inl rfl, ⟨.inl rfl, trivial⟩⟩⟩⟩⟩⟩⟩⟩⟩⟩⟩⟩⟩⟩⟩⟩⟩) ?_
       rintro _ oH ⟨lI, lK, lJ, lH, qP, e1, d2, rfl, ob⟩
       refine ⟨HS.didW d2, fun oq l3 => ?_⟩
       replace d2 := HS.back2 hsW.log0 (i := 10) (j := 11) (by decide) rfl rfl rfl (fun _ hb => hb) d2
       replace d2 := HS.lg d2 hsW l3
       generalize ({ oH with log := oq } : Heap) = qc at d2 ⊢
       have d2 : HS _ _ _ [kr, pc, pr, pp, lG, [(bt.b, .cells [(iI s.top.code.params), (iI s.top.code.regs), (.slice ba s.top.code.blocks.length bk), (.slice ra s.top.regs.length rk), (.slice aa s.top.args.length ak), (iI s.top.blk), (iI s.top.at_), (iI s.top.to_)] none false)], pg, po, I, e0, [(a0.b, .cells [(iI (s.low.getLastD default).code.params), (iI (s.low.getLastD default).code.regs), (.slice ky (s.low.getLastD default).code.blocks.length kz), (.slice lI lK lJ), (.slice kw (s.low.getLastD default).args.length kx), (iI (s.low.getLastD default).blk), (iI (s.low.getLastD default).at_), (iI (s.low.getLastD default).to_)] none false)], lH] _ := d2
       replace f1 := f1.mono e1
       replace T := T.mono e1
       replace V := V.mono e1
       replace z1 := z1.mono e1
       replace z3 := z3.mono e1
       replace y2 := SF.mono e1 y2
       replace z4 := FAM.mono (fun k => CR.mono e1 k) z4
       refine bZ ?_
       refine ay 1 rfl ?_
       have mr : HS _ _ _ [kr, pc, pr, pp, lG, [(a0.b, .cells [(iI (s.low.getLastD default).code.params), (iI (s.low.getLastD default).code.regs), (.slice ky (s.low.getLastD default).code.blocks.length kz), (.slice lI lK lJ), (.slice kw (s.low.getLastD default).args.length kx), (iI (s.low.getLastD default).blk), (iI (s.low.getLastD default).at_), (iI (s.low.getLastD default).to_)] none false)], lH, po, [(bt.b, .cells [(iI s.top.code.params), (iI s.top.code.regs), (.slice ba s.top.code.blocks.length bk), (.slice ra s.top.regs.length rk), (.slice aa s.top.args.length ak), (iI s.top.blk), (iI s.top.at_), (iI s.top.to_)] none false)], pg, I, e0] _ := HS.flat d2 (permIdx [0, 1, 2, 3, 4, 10, 11, 7, 5, 6, 8, 9] rfl (show List.Perm [0, 1, 2, 3, 4, 10, 11, 7, 5, 6, 8, 9] (List.range 12) by decide))
       exact aA ⟨.inl rfl, _, rfl, rfl, RunP.mk (bt := a0) (L := [[(bt.b, .cells [(iI s.top.code.params), (iI s.top.code.regs), (.slice ba s.top.code.blocks.length bk), (.slice ra s.top.regs.length rk), (.slice aa s.top.args.length ak), (iI s.top.blk), (iI s.top.at_), (iI s.top.to_)] none false)], pg, I, e0]) (by unfold bI; dsimp only [fu, fC, cb]; (repeat (first | rw [if_pos (by omega)] | rw [if_neg (by omega)] | rw [if_pos hlow] | rw [if_neg hlow] | (unfold cG; dsimp only [goT, az]) | (unfold f4; dsimp only [az]) | (unfold fY; dsimp only [ct, az]) | (unfold fQ; dsimp only [ct, az]) | (unfold cP; dsimp only [az]))); first | done | rfl | rw [hmap]) mr (e1) T y2 f1 z4 V y7 z1 ob z3⟩
     ·
      try simp only [BS] at kV
      refine ah ?_
      refine wRo 3 0 [(2, .o (iI (s.top.code.blocks.getD s.top.blk.toNat default).tgt))] 19 21 [] [(19, (.pointer (some ⟨b, 0, none⟩))), (21, (iI (s.top.code.blocks.getD s.top.blk.toNat default).tgt))] (vA (ql 3 3 (HS.hc J (i := 9) rfl) rfl rfl) trivial) rfl fun _ => ?_
      refine aJ (ax rfl rfl rfl) rfl rfl (i5 ex (2) (s.top.code.blocks.getD s.top.blk.toNat default).tgt (0) (HS.callOwn J (i := 0) rfl)) ?_
      rintro _ qZ ⟨hy, rfl⟩
      replace hy := HS.backOwn J (i := 0) rfl rfl (fun _ hb => hb) hy
      have hy : HS _ _ _ [[(b, .cells [(.slice la P.length lk), (.slice ca hd.length ck), (.slice pa (ps ++ [bt]).length pk), (iI s.fuel), (.bool true), (iI 2), (iI (s.top.code.blocks.getD s.top.blk.toNat default).tgt), (.slice oa s.out.length ok), (iI 0)] none false)], pc, pr, pp, pl, [(bt.b, .cells [(iI s.top.code.params), (iI s.top.code.regs), (.slice ba s.top.code.blocks.length bk), (.slice ra s.top.regs.length rk), (.slice aa s.top.args.length ak), (iI s.top.blk), (iI s.top.at_), (iI s.top.to_)] none false)], pg, po, I, e0] _ := hy
      refine au 1 rfl ?_
      exact aA ⟨.inl rfl, _, rfl, rfl, RunP.mk (bt := bt) (L := [I, e0]) (by unfold bI; dsimp only [fu, fC, cb]; (repeat (first | rw [if_pos (by omega)] | rw [if_neg (by omega)] | rw [if_pos hlow] | rw [if_neg hlow] | (unfold cG; dsimp only [goT, az]) | (unfold f4; dsimp only [az]) | (unfold fY; dsimp only [ct, az]) | (unfold fQ; dsimp only [ct, az]) | (unfold cP; dsimp only [az]))); first | done | rfl | rw [hmap]) hy fR T y2 y3 y4 V (by first | exact hgr _ | exact ⟨by decide, by decide⟩ | omega) U x2 Z⟩
  rintro _ q0 ⟨rfl, kM⟩
  refine au 1 rfl ?_
  exact am ⟨.inr rfl, _, rfl, rfl, kM⟩
 ·
  try simp only [BS] at c9
  have hI : InF P nc s.top.code ((s.top.code.blocks.getD s.top.blk.toNat default).ins.getD s.top.at_.toNat default) := hC.inF hp c9
  have hia := hI.a; have hib := hI.b; have hic := hI.cc; have hiA := hI.args; have hiM := hI.mem; have hiP := hI.par; have hiC := hI.call; have hiL := hI.al
  refine aR rfl ?_
  refine ai (v := (.pointer (some ⟨b5, 0, none⟩))) (id := .v) (bd rfl rfl) rfl rfl (aI rfl) (aF _) ?_
  refine ai (v := (.slice fi (s.top.code.blocks.getD s.top.blk.toNat default).ins.length g3)) (id := .l b5) (aT (i := 0) rfl rfl (HS.hc a7.log0 (i := 8) rfl) rfl rfl) rfl rfl (bn rfl) (⟨.inl rfl, trivial⟩) ?_
  refine fm (.pointer (some ⟨bt.b, 0, none⟩)) rfl rfl rfl ?_
  refine ai (v := (.pointer (some ⟨bt.b, 0, none⟩))) (id := .v) (bN rfl) rfl rfl (aI rfl) (aF _) ?_
  refine ai (v := (.pointer (some ⟨bt.b, 6, none⟩))) (id := .v) (bd rfl rfl) rfl rfl (aI rfl) (aF _) ?_
  refine ai (v := (iI s.top.at_)) (id := .l bt.b) (aT (i := 6) rfl rfl (HS.hc a7.log0 (i := 5) rfl) rfl rfl) rfl rfl (bn rfl) (⟨.inl rfl, ⟨.inl rfl, ⟨.inl rfl, ⟨.inr trivial, ⟨.inr trivial, trivial⟩⟩⟩⟩⟩) ?_
  refine ai (v := (.pointer (some ⟨sB (.slice fi (s.top.code.blocks.getD s.top.blk.toNat default).ins.length g3), sO (.slice fi (s.top.code.blocks.getD s.top.blk.toNat default).ins.length g3) + s.top.at_.toNat * Rp.sz VInT, none⟩))) (id := .v) (eI (α := VInT) (j := s.top.at_) rfl rfl rfl rfl (SR.sv lL a7.log0) (by first | omega | exact hgr _ | exact aj wf.rows _ | (dsimp only; omega)) (by first | omega | exact hgr _ | exact aj wf.rows _ | (dsimp only; omega))) rfl rfl (aI rfl) (aF _) ?_
  obtain ⟨qt, oc, n2⟩ := Sv.at (SR.sv lL a7.log0) (dM (x := default) (show s.top.at_.toNat < (s.top.code.blocks.getD s.top.blk.toNat default).ins.length from by first | omega | exact hgr _ | exact aj wf.rows _ | (dsimp only; omega)))
  obtain ⟨g4, he, rfl, pH, pI, pJ, pK, pL, hv⟩ := oc
  refine ai (v := (.agg ⟨[(iI ((s.top.code.blocks.getD s.top.blk.toNat default).ins.getD s.top.at_.toNat default).i.op), (iI ((s.top.code.blocks.getD s.top.blk.toNat default).ins.getD s.top.at_.toNat default).i.a), (iI ((s.top.code.blocks.getD s.top.blk.toNat default).ins.getD s.top.at_.toNat default).i.b), (iI ((s.top.code.blocks.getD s.top.blk.toNat default).ins.getD s.top.at_.toNat default).i.c), (iI ((s.top.code.blocks.getD s.top.blk.toNat default).ins.getD s.top.at_.toNat default).i.n), (.slice g4 ((s.top.code.blocks.getD s.top.blk.toNat default).ins.getD s.top.at_.toNat default).args.length he)]⟩)) (id := .l (sB (.slice fi (s.top.code.blocks.getD s.top.blk.toNat default).ins.length g3))) (iM (i := 0) rfl rfl rfl n2 rfl rfl rfl) rfl rfl (bn rfl) (⟨.inl rfl, ⟨.inl rfl, ⟨.inl rfl, ⟨.inl rfl, ⟨.inl rfl, ⟨.inl rfl, ⟨.inl rfl, trivial⟩⟩⟩⟩⟩⟩⟩) ?_
  refine dU (id := .a) (bX a7.log0 rfl) rfl rfl (fun _ _ _ _ => iF rfl rfl rfl) (⟨.inr trivial, ⟨.inr trivial, ⟨.inr trivial, ⟨.inr trivial, ⟨.inr trivial, ⟨.inr trivial, ⟨.inr trivial, ⟨.inr trivial, trivial⟩⟩⟩⟩⟩⟩⟩⟩) ?_
  rintro _ oI _ ⟨et, rfl, f6, _⟩ ot l4
  replace f6 := HS.lg f6 a7 l4
  generalize ({ oI with log := ot } : Heap) = qd at f6 ⊢
  have f6 : HS _ _ _ [_, _, _, _, _, _, _, _, _, [(et, .cells [(iI 0), (iI 0), (iI 0), (iI 0), (iI 0), (.slice none 0 0)] none false)]] _ := f6
  refine jA (id := .x [et]) (aC (q := 9) f6.log0 rfl rfl rfl rfl rfl rfl rfl rfl rfl) rfl (by rintro _ _ _ ⟨_, hwr⟩; exact ee rfl rfl (Wr.did hwr)) (⟨.inl rfl, ⟨.inl rfl, ⟨.inl rfl, ⟨.inl rfl, ⟨.inl rfl, ⟨.inl rfl, ⟨.inl rfl, ⟨.inl rfl, ⟨.inl rfl, trivial⟩⟩⟩⟩⟩⟩⟩⟩⟩) ?_
  rintro _ oJ _ ⟨f9, _⟩ ou l5
  replace f9 := HS.lg f9 f6 l5
  generalize ({ oJ with log := ou } : Heap) = qe at f9 ⊢
  let A : Fp := [(et, .cells [(iI ((s.top.code.blocks.getD s.top.blk.toNat default).ins.getD s.top.at_.toNat default).i.op), (iI ((s.top.code.blocks.getD s.top.blk.toNat default).ins.getD s.top.at_.toNat default).i.a), (iI ((s.top.code.blocks.getD s.top.blk.toNat default).ins.getD s.top.at_.toNat default).i.b), (iI ((s.top.code.blocks.getD s.top.blk.toNat default).ins.getD s.top.at_.toNat default).i.c), (iI ((s.top.code.blocks.getD s.top.blk.toNat default).ins.getD s.top.at_.toNat default).i.n), (.slice g4 ((s.top.code.blocks.getD s.top.blk.toNat default).ins.getD s.top.at_.toNat default).args.length he)] none false)]
  have f9 : HS _ _ _ [_, _, _, _, _, _, _, _, _, A] _ := f9
  refine bZ ?_
  refine ay 2 rfl ?_
  refine ah ?_
  refine wRo 7 0 [(3, .o (iI s.top.at_))] 50 56 [] [(54, (iI (s.top.at_ + 1))), (56, (.pointer (some ⟨bt.b, 6, none⟩)))] (vA (ql 3 6 (HS.hc f9 (i := 5) rfl) rfl rfl) (vA (vi (n := s.top.at_ + 1) (by first | omega | exact hgr _ | exact aj wf.rows _ | (dsimp only; omega))) trivial)) rfl fun _ => ?_
  refine aN (aC (q := 5) f9 rfl rfl rfl rfl rfl rfl rfl rfl rfl) rfl ?_
  rintro _ oK _ ⟨O, _⟩
  have O : HS _ _ _ [_, _, _, _, _, [(bt.b, .cells [(iI s.top.code.params), (iI s.top.code.regs), (.slice ba s.top.code.blocks.length bk), (.slice ra s.top.regs.length rk), (.slice aa s.top.args.length ak), (iI s.top.blk), (iI (s.top.at_ + 1)), (iI s.top.to_)] none false)], _, _, _, _] _ := O
  refine au 2 rfl ?_
  refine wR 3 [(2, .o (iI ((s.top.code.blocks.getD s.top.blk.toNat default).ins.getD s.top.at_.toNat default).i.op))] 57 59 [] [(59, (iI ((s.top.code.blocks.getD s.top.blk.toNat default).ins.getD s.top.at_.toNat default).i.op))] (vA (ql 3 0 (HS.hc O (i := 9) rfl) rfl rfl) trivial) rfl fun _ => ?_
  refine wR 1 [] 65 66 [] [(65, (.bool (((s.top.code.blocks.getD s.top.blk.toNat default).ins.getD s.top.at_.toNat default).i.op == 3)))] trivial rfl fun _ => ?_
  refine ao 2 1 (v := (((s.top.code.blocks.getD s.top.blk.toNat default).ins.getD s.top.at_.toNat default).i.op == 3)) rfl rfl rfl rfl (fun kX => ?_) (fun kX => ?_)
  ·
   try simp only [BS] at kX
   refine wR 1 [(3, .o (iI s.fuel))] 67 71 [] [(71, (.bool (s.fuel == 0)))] (vA (ql 3 3 (HS.hc O (i := 0) rfl) rfl rfl) trivial) rfl fun _ => ?_
   refine ao 1 1 (v := (s.fuel == 0)) rfl rfl rfl rfl (fun kY => ?_) (fun kY => ?_)
   ·
    try simp only [BS] at kY
    refine ah ?_
    refine wm (.pointer (some ⟨b, 0, none⟩)) rfl rfl rfl ?_
    refine aJ (ax rfl rfl rfl) rfl rfl (i5 ex (3) (0) (0) (HS.callOwn O (i := 0) rfl)) ?_
    rintro _ q1 ⟨hA, rfl⟩
    replace hA := HS.backOwn O (i := 0) rfl rfl (fun _ hb => hb) hA
    have hA : HS _ _ _ [[(b, .cells [(.slice la P.length lk), (.slice ca hd.length ck), (.slice pa (ps ++ [bt]).length pk), (iI s.fuel), (.bool true), (iI 3), (iI 0), (.slice oa s.out.length ok), (iI 0)] none false)], pc, pr, pp, pl, [(bt.b, .cells [(iI s.top.code.params), (iI s.top.code.regs), (.slice ba s.top.code.blocks.length bk), (.slice ra s.top.regs.length rk), (.slice aa s.top.args.length ak), (iI s.top.blk), (iI (s.top.at_ + 1)), (iI s.top.to_)] none false)], pg, po, I, A] _ := hA
    refine au 1 rfl ?_
    exact am ⟨.inr rfl, _, rfl, rfl, RunP.mk (bt := bt) (L := [I, A]) (by unfold bI; dsimp only [fu, fC, cb]; (repeat (first | rw [if_pos (by omega)] | rw [if_neg (by omega)] | rw [if_pos hlow] | rw [if_neg hlow] | (unfold cG; dsimp only [goT, az]) | (unfold f4; dsimp only [az]) | (unfold fY; dsimp only [ct, az]) | (unfold fQ; dsimp only [ct, az]) | (unfold cP; dsimp only [az]))); first | done | rfl | rw [hmap]) hA fR T y2 y3 y4 V (by first | exact hgr _ | exact ⟨by decide, by decide⟩ | omega) U x2 Z⟩
   ·
    try simp only [BS] at kY
    refine ah ?_
    refine wRo 7 0 [(3, .o (iI s.fuel))] 74 80 [] [(78, (iI (s.fuel - 1))), (80, (.pointer (some ⟨b, 3, none⟩)))] (vA (ql 3 3 (HS.hc O (i := 0) rfl) rfl rfl) (vA (vi (n := s.fuel - 1) (by first | omega | exact hgr _ | exact aj wf.rows _ | (dsimp only; omega))) trivial)) rfl fun _ => ?_
    refine aN (aC (q := 0) O rfl rfl rfl rfl rfl rfl rfl rfl rfl) rfl ?_
    rintro _ q2 _ ⟨kj, _⟩
    have kj : HS _ _ _ [[(b, .cells [(.slice la P.length lk), (.slice ca hd.length ck), (.slice pa (ps ++ [bt]).length pk), (iI (s.fuel - 1)), (.bool s.over), (iI s.kind), (iI s.code), (.slice oa s.out.length ok), (iI s.val)] none false)], _, _, _, _, _, _, _, _, _] _ := kj
    refine au 1 rfl ?_
    exact aA ⟨.inl rfl, _, rfl, rfl, RunP.mk (bt := bt) (L := [I, A]) (by unfold bI; dsimp only [fu, fC, cb]; (repeat (first | rw [if_pos (by omega)] | rw [if_neg (by omega)] | rw [if_pos hlow] | rw [if_neg hlow] | (unfold cG; dsimp only [goT, az]) | (unfold f4; dsimp only [az]) | (unfold fY; dsimp only [ct, az]) | (unfold fQ; dsimp only [ct, az]) | (unfold cP; dsimp only [az]))); first | done | rfl | rw [hmap]) kj fR T y2 y3 y4 V y7 U x2 Z⟩
  ·
   try simp only [BS] at kX
   refine wR 1 [] 81 82 [] [(81, (.bool (((s.top.code.blocks.getD s.top.blk.toNat default).ins.getD s.top.at_.toNat default).i.op == 6)))] trivial rfl fun _ => ?_
   refine ao 1 1 (v := (((s.top.code.blocks.getD s.top.blk.toNat default).ins.getD s.top.at_.toNat default).i.op == 6)) rfl rfl rfl rfl (fun kZ => ?_) (fun kZ => ?_)
   ·
    try simp only [BS] at kZ
    have qA := hiC (by omega)
    refine aR rfl ?_
    refine fm (.pointer (some ⟨b, 0, none⟩)) rfl rfl rfl ?_
    refine ai (v := (.pointer (some ⟨b, 0, none⟩))) (id := .v) (bN rfl) rfl rfl (aI rfl) (aF _) ?_
    refine ai (v := (.pointer (some ⟨b, 0, none⟩))) (id := .v) (bd rfl rfl) rfl rfl (aI rfl) (aF _) ?_
    refine ai (v := (.slice la P.length lk)) (id := .l b) (aT (i := 0) rfl rfl (HS.hc O.log0 (i := 0) rfl) rfl rfl) rfl rfl (bn rfl) (⟨.inl rfl, ⟨.inl rfl, ⟨.inl rfl, trivial⟩⟩⟩) ?_
    refine ai (v := (.pointer (some ⟨et, 0, none⟩))) (id := .v) (bd rfl rfl) rfl rfl (aI rfl) (aF _) ?_
    refine ai (v := (.pointer (some ⟨et, 4, none⟩))) (id := .v) (bd rfl rfl) rfl rfl (aI rfl) (aF _) ?_
    refine ai (v := (iI ((s.top.code.blocks.getD s.top.blk.toNat default).ins.getD s.top.at_.toNat default).i.n)) (id := .l et) (aT (i := 4) rfl rfl (HS.hc O.log0 (i := 9) rfl) rfl rfl) rfl rfl (bn rfl) (⟨.inl rfl, ⟨.inl rfl, ⟨.inr trivial, ⟨.inr trivial, ⟨.inr trivial, ⟨.inr trivial, trivial⟩⟩⟩⟩⟩⟩) ?_
    refine ai (v := (.pointer (some ⟨sB (.slice la P.length lk), sO (.slice la P.length lk) + ((s.top.code.blocks.getD s.top.blk.toNat default).ins.getD s.top.at_.toNat default).i.n.toNat * Rp.sz VFnT, none⟩))) (id := .v) (eI (α := VFnT) (j := ((s.top.code.blocks.getD s.top.blk.toNat default).ins.getD s.top.at_.toNat default).i.n) rfl rfl rfl rfl (SR.sv hP O.log0) (by first | omega | exact hgr _ | exact aj wf.rows _ | (dsimp only; omega)) (by first | omega | exact hgr _ | exact aj wf.rows _ | (dsimp only; omega))) rfl rfl (aI rfl) (aF _) ?_
    obtain ⟨qu, od, n3⟩ := Sv.at (SR.sv hP O.log0) (dM (x := default) (show ((s.top.code.blocks.getD s.top.blk.toNat default).ins.getD s.top.at_.toNat default).i.n.toNat < P.length from by first | omega | exact hgr _ | exact aj wf.rows _ | (dsimp only; omega)))
    obtain ⟨ds, es, rfl, pM, pN, hg⟩ := od
    refine ai (v := (.agg ⟨[(iI (P.getD ((s.top.code.blocks.getD s.top.blk.toNat default).ins.getD s.top.at_.toNat default).i.n.toNat default).params), (iI (P.getD ((s.top.code.blocks.getD s.top.blk.toNat default).ins.getD s.top.at_.toNat default).i.n.toNat default).regs), (.slice ds (P.getD ((s.top.code.blocks.getD s.top.blk.toNat default).ins.getD s.top.at_.toNat default).i.n.toNat default).blocks.length es)]⟩)) (id := .l (sB (.slice la P.length lk))) (iM (i := 0) rfl rfl rfl n3 rfl rfl rfl) rfl rfl (bn rfl) (⟨.inl rfl, ⟨.inl rfl, ⟨.inl rfl, ⟨.inl rfl, ⟨.inl rfl, ⟨.inl rfl, ⟨.inl rfl, ⟨.inl rfl, trivial⟩⟩⟩⟩⟩⟩⟩⟩) ?_
    refine ai (v := (.pointer (some ⟨et, 0, none⟩))) (id := .v) (bd rfl rfl) rfl rfl (aI rfl) (aF _) ?_
    refine ai (v := (.pointer (some ⟨et, 1, none⟩))) (id := .v) (bd rfl rfl) rfl rfl (aI rfl) (aF _) ?_
    refine ai (v := (iI ((s.top.code.blocks.getD s.top.blk.toNat default).ins.getD s.top.at_.toNat default).i.a)) (id := .l et) (aT (i := 1) rfl rfl (HS.hc O.log0 (i := 9) rfl) rfl rfl) rfl rfl (bn rfl) (⟨.inl rfl, ⟨.inl rfl, ⟨.inr trivial, ⟨.inr trivial, ⟨.inr trivial, ⟨.inr trivial, ⟨.inr trivial, ⟨.inr trivial, ⟨.inr trivial, ⟨.inr trivial, ⟨.inr trivial, trivial⟩⟩⟩⟩⟩⟩⟩⟩⟩⟩⟩) ?_
    refine ai (v := (.agg ⟨[(iI (P.getD ((s.top.code.blocks.getD s.top.blk.toNat default).ins.getD s.top.at_.toNat default).i.n.toNat default).params), (iI (P.getD ((s.top.code.blocks.getD s.top.blk.toNat default).ins.getD s.top.at_.toNat default).i.n.toNat default).regs), (.slice ds (P.getD ((s.top.code.blocks.getD s.top.blk.toNat default).ins.getD s.top.at_.toNat default).i.n.toNat default).blocks.length es), (.slice none 0 0), (.slice none 0 0), (iI 0), (iI 0), (iI ((s.top.code.blocks.getD s.top.blk.toNat default).ins.getD s.top.at_.toNat default).i.a)]⟩)) (id := .v) (ap_bld rfl rfl (by kernel_rfl)) rfl rfl (aI rfl) (aF _) ?_
    refine dU (id := .a) (dQ O.log0 rfl rfl) rfl rfl (fun _ _ _ _ => iF rfl rfl rfl) (⟨.inl rfl, ⟨.inl rfl, ⟨.inl rfl, ⟨.inl rfl, ⟨.inl rfl, ⟨.inl rfl, ⟨.inl rfl, ⟨.inl rfl, ⟨.inl rfl, ⟨.inl rfl, ⟨.inl rfl, ⟨.inl rfl, ⟨.inl rfl, trivial⟩⟩⟩⟩⟩⟩⟩⟩⟩⟩⟩⟩⟩) ?_
    rintro _ oL _ ⟨a5, rfl, gn, _⟩ ov l6
    replace gn := HS.lg gn O l6
    generalize ({ oL with log := ov } : Heap) = qh at gn ⊢
    have gn : HS _ _ _ [_, _, _, _, _, _, _, _, _, _, [(a5, .cells [(iI (P.getD ((s.top.code.blocks.getD s.top.blk.toNat default).ins.getD s.top.at_.toNat default).i.n.toNat default).params), (iI (P.getD ((s.top.code.blocks.getD s.top.blk.toNat default).ins.getD s.top.at_.toNat default).i.n.toNat default).regs), (.slice ds (P.getD ((s.top.code.blocks.getD s.top.blk.toNat default).ins.getD s.top.at_.toNat default).i.n.toNat default).blocks.length es), (.slice none 0 0), (.slice none 0 0), (iI 0), (iI 0), (iI ((s.top.code.blocks.getD s.top.blk.toNat default).ins.getD s.top.at_.toNat default).i.a)] none false)]] _ := gn
    refine fa (.pointer (some ⟨a5, 0, none⟩)) rfl rfl rfl ?_
    refine bZ ?_
    refine ay 3 rfl ?_
    refine wR 2 [(1, .o (.slice g4 ((s.top.code.blocks.getD s.top.blk.toNat default).ins.getD s.top.at_.toNat default).args.length he))] 97 100 [] [(98, (.slice g4 ((s.top.code.blocks.getD s.top.blk.toNat default).ins.getD s.top.at_.toNat default).args.length he)), (99, (iI (((s.top.code.blocks.getD s.top.blk.toNat default).ins.getD s.top.at_.toNat default).args.length : Int))), (100, (iI 0))] (vA (ql 25 5 (HS.hc gn (i := 9) rfl) rfl rfl) trivial) rfl fun _ => ?_
    have kk := HS.snoc gn
    have kk : HS _ _ _ [_, _, _, _, _, _, _, _, _, _, _, []] _ := kk
    refine aQ (fun (mm : Nat) f H' => ∃ (ag : List Int) (j : Nat) (a4 : Fp) (a2 : Option Addr) (a3 : Nat) (F' : Fz), Fz.le F F' ∧ HS (Base.of H (b :: q.map Prod.fst)) F' H' [ez, pc, pr, pp, pl, [(bt.b, .cells [(iI s.top.code.params), (iI s.top.code.regs), (.slice ba s.top.code.blocks.length bk), (.slice ra s.top.regs.length rk), (.slice aa s.top.args.length ak), (iI s.top.blk), (iI (s.top.at_ + 1)), (iI s.top.to_)] none false)], pg, po, I, A, [(a5, .cells [(iI (P.getD ((s.top.code.blocks.getD s.top.blk.toNat default).ins.getD s.top.at_.toNat default).i.n.toNat default).params), (iI (P.getD ((s.top.code.blocks.getD s.top.blk.toNat default).ins.getD s.top.at_.toNat default).i.n.toNat default).regs), (.slice ds (P.getD ((s.top.code.blocks.getD s.top.blk.toNat default).ins.getD s.top.at_.toNat default).i.n.toNat default).blocks.length es), (.slice none 0 0), (.slice a2 ag.length a3), (iI 0), (iI 0), (iI ((s.top.code.blocks.getD s.top.blk.toNat default).ins.getD s.top.at_.toNat default).i.a)] none false)], a4] R ∧ OS F' (.slice a2 ag.length a3) ag a4 ∧ be f [(0, (.pointer (some ⟨b, 0, none⟩))), (2, (.pointer (some ⟨bt.b, 0, none⟩))), (5, (.pointer (some ⟨a5, 0, none⟩))), (98, (.slice g4 ((s.top.code.blocks.getD s.top.blk.toNat default).ins.getD s.top.at_.toNat default).args.length he)), (99, (iI (((s.top.code.blocks.getD s.top.blk.toNat default).ins.getD s.top.at_.toNat default).args.length : Int))), (100, (iI (j : Int)))] ∧ mm = ((s.top.code.blocks.getD s.top.blk.toNat default).ins.getD s.top.at_.toNat default).args.length - j ∧ (ag = (((s.top.code.blocks.getD s.top.blk.toNat default).ins.getD s.top.at_.toNat default).args.take j).map (bC s.top.regs)) ∧ (j ≤ ((s.top.code.blocks.getD s.top.blk.toNat default).ins.getD s.top.at_.toNat default).args.length)) _ ⟨([] : List Int), 0, [], none, 0, _, fR, kk, (OS.nil : OS F (.slice none 0 0) ([] : List Int) []), (agC rfl (agC rfl (agC rfl (agC rfl (agC rfl (agC rfl agN)))))), rfl, (by rfl), (by first | assumption | omega | (simp at *; omega))⟩ ?_
    rintro qE rh oM ⟨ag, j, a4, a2, a3, qQ, bb, em, hf, k4, rfl, e, hj⟩ oh
    refine aO _ k4 (fun _ => ?_)
    clear k4
    replace hv := hv.mono bb
    replace hg := hg.mono bb
    replace U := U.mono bb
    replace x2 := x2.mono bb
    replace Z := Z.mono bb
    replace T := T.mono bb
    replace y3 := y3.mono bb
    replace V := V.mono bb
    replace y2 := SF.mono bb y2
    replace y4 := FAM.mono (fun k => CR.mono bb k) y4
    have hag : ag.length ≤ 6 := by rw [e, List.length_map, List.length_take]; omega
    have hga := hI.arg j
    refine ay 1 rfl ?_
    refine wR 2 [] 101 101 [] [(101, (.bool (decide ((j : Int) < (((s.top.code.blocks.getD s.top.blk.toNat default).ins.getD s.top.at_.toNat default).args.length : Int)))))] trivial rfl fun _ => ?_
    refine ao 4 4 (v := (decide ((j : Int) < (((s.top.code.blocks.getD s.top.blk.toNat default).ins.getD s.top.at_.toNat default).args.length : Int)))) rfl rfl rfl rfl (fun k0 => ?_) (fun k0 => ?_)
    ·
     try simp only [BS] at k0
     obtain ⟨qr, lA⟩ := Sv.view (SR.sv hv em)
     have rj := fI (lA j)
     refine wR 1 [(1, .o (iI (((s.top.code.blocks.getD s.top.blk.toNat default).ins.getD s.top.at_.toNat default).args.getD j 0)))] 102 103 [7] [(7, (iI (((s.top.code.blocks.getD s.top.blk.toNat default).ins.getD s.top.at_.toNat default).args.getD j 0)))] (vA (Sv.ix (j := (j : Int)) (SR.sv hv em) (by first | omega | exact hgr _ | exact aj wf.rows _ | (dsimp only; omega)) (by first | omega | exact hgr _ | exact aj wf.rows _ | (dsimp only; omega))) (vA (ql 3 0 (vI (lA j) (by first | omega | exact hgr _ | exact aj wf.rows _ | (dsimp only; omega))) rfl rfl) trivial)) rfl fun _ => ?_
     refine aR rfl ?_
     refine fm (.pointer (some ⟨a5, 0, none⟩)) rfl rfl rfl ?_
     refine fm (.pointer (some ⟨a5, 0, none⟩)) rfl rfl rfl ?_
     refine ai (v := (.pointer (some ⟨a5, 0, none⟩))) (id := .v) (bN rfl) rfl rfl (aI rfl) (aF _) ?_
     refine ai (v := (.pointer (some ⟨a5, 4, none⟩))) (id := .v) (bd rfl rfl) rfl rfl (aI rfl) (aF _) ?_
     refine ai (v := (.slice a2 ag.length a3)) (id := .l a5) (aT (i := 4) rfl rfl (HS.hc em.log0 (i := 10) rfl) rfl rfl) rfl rfl (bn rfl) (⟨.inl rfl, ⟨.inl rfl, ⟨.inl rfl, ⟨.inr trivial, trivial⟩⟩⟩⟩) ?_
     refine fm (.pointer (some ⟨bt.b, 0, none⟩)) rfl rfl rfl ?_
     refine fm (iI (((s.top.code.blocks.getD s.top.blk.toNat default).ins.getD s.top.at_.toNat default).args.getD j 0)) rfl rfl rfl ?_
     refine a9 (W := []) (ax rfl rfl rfl) rfl rfl rfl (ic.iT ex s.top.regs (((s.top.code.blocks.getD s.top.blk.toNat default).ins.getD s.top.at_.toNat default).args.getD j 0) _ (HS.hc em.log0 (i := 5) rfl) (OS.sv x2 em.log0 (i := 6) rfl) (by first | omega | exact hgr _ | exact aj wf.rows _ | (dsimp only; omega)) (by first | omega | exact hgr _ | exact aj wf.rows _ | (dsimp only; omega))) (⟨.inl rfl, ⟨.inl rfl, ⟨.inr List.not_mem_nil, ⟨.inr trivial, ⟨.inr trivial, ⟨.inr trivial, ⟨.inr trivial, trivial⟩⟩⟩⟩⟩⟩⟩) ?_
     rintro _ _ ⟨rr, rfl, rfl, rfl⟩
     refine ⟨fun b hb => absurd hb List.not_mem_nil, fun ow l7 => ?_⟩
     have kl := HS.lg em.log0 em l7
     generalize ({ { oM with log := [] } with log := ow } : Heap) = qi at kl ⊢
     refine dU (id := .a) (db (α := Int) (ps := [(0, (iI (bC s.top.regs (((s.top.code.blocks.getD s.top.blk.toNat default).ins.getD s.top.at_.toNat default).args.getD j 0))))]) (cells := [(iI (bC s.top.regs (((s.top.code.blocks.getD s.top.blk.toNat default).ins.getD s.top.at_.toNat default).args.getD j 0)))]) ([bC s.top.regs (((s.top.code.blocks.getD s.top.blk.toNat default).ins.getD s.top.at_.toNat default).args.getD j 0)] : List Int) kl.log0 rfl rfl rfl (by kernel_rfl) ⟨[(iI (bC s.top.regs (((s.top.code.blocks.getD s.top.blk.toNat default).ins.getD s.top.at_.toNat default).args.getD j 0)))], [], rfl, ⟨rfl, by first | omega | exact hgr _ | exact aj wf.rows _ | (dsimp only; omega)⟩, rfl⟩ rfl) rfl rfl (fun _ _ _ _ => iF rfl rfl rfl) (⟨.inl rfl, ⟨.inl rfl, ⟨.inl rfl, ⟨.inr trivial, ⟨.inr trivial, ⟨.inr trivial, ⟨.inr trivial, ⟨.inr trivial, trivial⟩⟩⟩⟩⟩⟩⟩⟩) ?_
     rintro _ oN o1 ⟨q8, rm, rfl, n6, e4, _⟩ ox l8
     replace e4 := HS.lg e4 kl l8
     generalize ({ oN with log := ox } : Heap) = qj at e4 ⊢
     have e4 : HS _ _ _ [_, _, _, _, _, _, _, _, _, _, [(a5, .cells [(iI (P.getD ((s.top.code.blocks.getD s.top.blk.toNat default).ins.getD s.top.at_.toNat default).i.n.toNat default).params), (iI (P.getD ((s.top.code.blocks.getD s.top.blk.toNat default).ins.getD s.top.at_.toNat default).i.n.toNat default).regs), (.slice ds (P.getD ((s.top.code.blocks.getD s.top.blk.toNat default).ins.getD s.top.at_.toNat default).i.n.toNat default).blocks.length es), (.slice none 0 0), (.slice a2 ag.length a3), (iI 0), (iI 0), (iI ((s.top.code.blocks.getD s.top.blk.toNat default).ins.getD s.top.at_.toNat default).i.a)] none false)], a4, o1] _ := e4
     refine dU (id := .x (a4.map Prod.fst)) (eW (α := Int) (q := 11) hf e4.log0 rfl rfl rfl (OS.sv n6 e4.log0 (i := 12) rfl) rfl rfl rfl rfl rfl rfl rfl (by first | omega | (simp only [List.length_cons, List.length_nil]; omega))) rfl rfl (by rintro _ _ lE ⟨kP, lC, rfl, lz, _, hwr⟩; exact ee rfl rfl (Wr.did hwr)) (⟨.inl rfl, ⟨.inl rfl, ⟨.inl rfl, ⟨.inl rfl, ⟨.inl rfl, ⟨.inl rfl, ⟨.inl rfl, ⟨.inl rfl, ⟨.inr trivial, trivial⟩⟩⟩⟩⟩⟩⟩⟩⟩) ?_
     rintro _ oO lE ⟨kP, lC, rfl, lz, g2, _⟩ oy l9
     replace g2 := HS.lg g2 e4 l9
     generalize ({ oO with log := oy } : Heap) = qk at g2 ⊢
     have g2 : HS _ _ _ [_, _, _, _, _, _, _, _, _, _, _, lE, _] _ := g2
     refine ai (v := (.pointer (some ⟨a5, 0, none⟩))) (id := .v) (bN rfl) rfl rfl (aI rfl) (aF _) ?_
     refine ai (v := (.pointer (some ⟨a5, 4, none⟩))) (id := .v) (bd rfl rfl) rfl rfl (aI rfl) (aF _) ?_
     refine jA (id := .x [a5]) (aC (q := 10) g2.log0 rfl rfl rfl rfl rfl rfl rfl rfl rfl) rfl (by rintro _ _ _ ⟨_, hwr⟩; exact ee rfl rfl (Wr.did hwr)) (⟨.inl rfl, ⟨.inl rfl, ⟨.inl rfl, ⟨.inl rfl, ⟨.inl rfl, ⟨.inl rfl, ⟨.inl rfl, ⟨.inl rfl, ⟨.inl rfl, ⟨.inl rfl, ⟨.inl rfl, ⟨.inl rfl, trivial⟩⟩⟩⟩⟩⟩⟩⟩⟩⟩⟩⟩) ?_
     rintro _ oP _ ⟨hk, _⟩ oz ma
     replace hk := HS.lg hk g2 ma
     generalize ({ oP with log := oz } : Heap) = qm at hk ⊢
     have hk : HS _ _ _ [_, _, _, _, _, _, _, _, _, _, [(a5, .cells [(iI (P.getD ((s.top.code.blocks.getD s.top.blk.toNat default).ins.getD s.top.at_.toNat default).i.n.toNat default).params), (iI (P.getD ((s.top.code.blocks.getD s.top.blk.toNat default).ins.getD s.top.at_.toNat default).i.n.toNat default).regs), (.slice ds (P.getD ((s.top.code.blocks.getD s.top.blk.toNat default).ins.getD s.top.at_.toNat default).i.n.toNat default).blocks.length es), (.slice none 0 0), (.slice kP (ag ++ ([bC s.top.regs (((s.top.code.blocks.getD s.top.blk.toNat default).ins.getD s.top.at_.toNat default).args.getD j 0)] : List Int)).length lC), (iI 0), (iI 0), (iI ((s.top.code.blocks.getD s.top.blk.toNat default).ins.getD s.top.at_.toNat default).i.a)] none false)], _, _] _ := hk
     refine bZ ?_
     refine ay 2 rfl ?_
     refine wR 1 [] 100 100 [116] [(100, (iI ((j : Int) + 1)))] (vA (vi (n := (j : Int) + 1) (by first | omega | exact hgr _ | exact aj wf.rows _ | (dsimp only; omega))) trivial) rfl fun _ => ?_
     refine oh _ _ _ ?_ ⟨ag ++ ([bC s.top.regs (((s.top.code.blocks.getD s.top.blk.toNat default).ins.getD s.top.at_.toNat default).args.getD j 0)] : List Int), j + 1, lE, kP, lC, _, (bb), (HS.sub hk (List.sublist_append_left _ _)), lz, (agC rfl (agC rfl (agC rfl (agC rfl (agC rfl (agC rfl agN)))))), rfl, (by exact map_step e (by omega)), (by first | assumption | omega | (simp at *; omega))⟩
     omega
    ·
     try simp only [BS] at k0
     have hmap := map_all e (by omega)
     refine ah ?_
     refine wRo 6 0 [(4, .o (.slice pa (ps ++ [bt]).length pk))] 117 122 [] [(117, (.pointer (some ⟨b, 0, none⟩))), (121, (.slice pa (ps ++ [bt]).length pk)), (122, (.pointer (some ⟨a5, 0, none⟩)))] (vA (ql 110 2 (HS.hc em (i := 0) rfl) rfl rfl) trivial) rfl fun _ => ?_
     refine br (db (α := PtrT) (ps := [(0, (.pointer (some ⟨a5, 0, none⟩)))]) (cells := [(.pointer (some ⟨a5, 0, none⟩))]) ([(⟨a5⟩ : PtrT)] : List PtrT) em rfl rfl rfl (by kernel_rfl) ⟨[(.pointer (some ⟨a5, 0, none⟩))], [], rfl, rfl, rfl⟩ rfl) rfl rfl ?_
     rintro _ q5 kK ⟨q9, rp, rfl, n7, hY, _⟩
     let kt : Fp := [(a5, .cells [(iI (P.getD ((s.top.code.blocks.getD s.top.blk.toNat default).ins.getD s.top.at_.toNat default).i.n.toNat default).params), (iI (P.getD ((s.top.code.blocks.getD s.top.blk.toNat default).ins.getD s.top.at_.toNat default).i.n.toNat default).regs), (.slice ds (P.getD ((s.top.code.blocks.getD s.top.blk.toNat default).ins.getD s.top.at_.toNat default).i.n.toNat default).blocks.length es), (.slice none 0 0), (.slice a2 ag.length a3), (iI 0), (iI 0), (iI ((s.top.code.blocks.getD s.top.blk.toNat default).ins.getD s.top.at_.toNat default).i.a)] none false)]
     have hY : HS _ _ _ [_, _, _, _, _, _, _, _, _, _, kt, a4, kK] _ := hY
     refine br (eW (α := PtrT) (q := 3) y3 hY rfl rfl rfl (OS.sv n7 hY (i := 12) rfl) rfl rfl rfl rfl rfl rfl rfl (by first | omega | (simp only [List.length_append, List.length_cons, List.length_nil]; omega))) rfl rfl ?_
     rintro _ q6 lF ⟨oQ, oY, rfl, jw, km, _⟩
     have km : HS _ _ _ [_, _, _, lF, _, _, _, _, _, _, _, _, _] _ := km
     refine wRo 2 8 [] 125 126 [] [(126, (.pointer (some ⟨b, 2, none⟩)))] trivial rfl fun _ => ?_
     refine aN (aC (q := 0) km rfl rfl rfl rfl rfl rfl rfl rfl rfl) rfl ?_
     rintro _ q7 _ ⟨kn, _⟩
     let ku : Fp := [(b, .cells [(.slice la P.length lk), (.slice ca hd.length ck), (.slice oQ ((ps ++ [bt]) ++ ([(⟨a5⟩ : PtrT)] : List PtrT)).length oY), (iI s.fuel), (.bool s.over), (iI s.kind), (iI s.code), (.slice oa s.out.length ok), (iI s.val)] none false)]
     have kn : HS _ _ _ [ku, _, _, _, _, _, _, _, _, _, _, _, _] _ := kn
     refine au 1 rfl ?_
     obtain ⟨qR, dl, ko, oe, qB⟩ := OS.frz hf kn (i := 11) rfl
     have ko : HS _ _ _ [_, _, _, _, _, _, _, _, _, _, _, [], _] _ := ko
     replace jw := jw.mono dl
     replace hg := hg.mono dl
     replace U := U.mono dl
     replace x2 := x2.mono dl
     replace Z := Z.mono dl
     replace T := T.mono dl
     replace V := V.mono dl
     replace y2 := SF.mono dl y2
     replace y4 := FAM.mono (fun k => CR.mono dl k) y4
     obtain ⟨kL, qp, h1, mc⟩ := pool_push (⟨⟨s.top.code.params, s.top.code.regs, s.top.code.blocks⟩, s.top.regs, s.top.args, s.top.blk, (s.top.at_ + 1), s.top.to_⟩ : CalT) y4 ko rfl rfl rfl U x2 Z
     have h1 : HS _ _ _ [ku, pc, pr, lF, kL, [], [], po, I, A, kt, [], kK] _ := h1
     have ms : HS _ _ _ [ku, pc, pr, lF, kL, kt, [], po, [], I, A, [], kK] _ := HS.flat h1 (permIdx [0, 1, 2, 3, 4, 10, 6, 7, 5, 8, 9, 11, 12] rfl (show List.Perm [0, 1, 2, 3, 4, 10, 6, 7, 5, 8, 9, 11, 12] (List.range 13) by decide))
     exact aA ⟨.inl rfl, _, rfl, rfl, RunP.mk (bt := ⟨a5⟩) (L := [[], I, A, [], kK]) (by unfold bI; dsimp only [fu, fC, cb]; (repeat (first | rw [if_pos (by omega)] | rw [if_neg (by omega)] | rw [if_pos hlow] | rw [if_neg hlow] | (unfold cG; dsimp only [goT, az]) | (unfold f4; dsimp only [az]) | (unfold fY; dsimp only [ct, az]) | (unfold fQ; dsimp only [ct, az]) | (unfold cP; dsimp only [az]))); first | done | rfl | rw [hmap]) ms (fT (bb) dl) T y2 jw mc V y7 hg OS.nil oe⟩
   ·
    try simp only [BS] at kZ
    refine wR 1 [] 127 128 [] [(127, (.bool (((s.top.code.blocks.getD s.top.blk.toNat default).ins.getD s.top.at_.toNat default).i.op == 9)))] trivial rfl fun _ => ?_
    refine ao 0 2 (v := (((s.top.code.blocks.getD s.top.blk.toNat default).ins.getD s.top.at_.toNat default).i.op == 9)) rfl rfl rfl rfl (fun k3 => ?_) (fun k3 => ?_)
    ·
     try simp only [BS] at k3
     refine aR rfl ?_
     refine fm (.pointer (some ⟨b, 0, none⟩)) rfl rfl rfl ?_
     refine fm (.pointer (some ⟨b, 0, none⟩)) rfl rfl rfl ?_
     refine ai (v := (.pointer (some ⟨b, 0, none⟩))) (id := .v) (bN rfl) rfl rfl (aI rfl) (aF _) ?_
     refine ai (v := (.pointer (some ⟨b, 5, none⟩))) (id := .v) (bd rfl rfl) rfl rfl (aI rfl) (aF _) ?_
     refine ai (v := (.pointer (some ⟨b, 7, none⟩))) (id := .v) (bd rfl rfl) rfl rfl (aI rfl) (aF _) ?_
     refine ai (v := (.slice oa s.out.length ok)) (id := .l b) (aT (i := 7) rfl rfl (HS.hc O.log0 (i := 0) rfl) rfl rfl) rfl rfl (bn rfl) (⟨.inl rfl, ⟨.inl rfl, ⟨.inl rfl, ⟨.inl rfl, ⟨.inr trivial, trivial⟩⟩⟩⟩⟩) ?_
     refine fm (.pointer (some ⟨bt.b, 0, none⟩)) rfl rfl rfl ?_
     refine ai (v := (.pointer (some ⟨et, 0, none⟩))) (id := .v) (bd rfl rfl) rfl rfl (aI rfl) (aF _) ?_
     refine ai (v := (.pointer (some ⟨et, 1, none⟩))) (id := .v) (bd rfl rfl) rfl rfl (aI rfl) (aF _) ?_
     refine ai (v := (iI ((s.top.code.blocks.getD s.top.blk.toNat default).ins.getD s.top.at_.toNat default).i.a)) (id := .l et) (aT (i := 1) rfl rfl (HS.hc O.log0 (i := 9) rfl) rfl rfl) rfl rfl (bn rfl) (⟨.inl rfl, ⟨.inl rfl, ⟨.inr trivial, ⟨.inr trivial, ⟨.inr trivial, ⟨.inr trivial, ⟨.inr trivial, ⟨.inr trivial, ⟨.inr trivial, trivial⟩⟩⟩⟩⟩⟩⟩⟩⟩) ?_
     refine a9 (W := []) (ax rfl rfl rfl) rfl rfl rfl (ic.iT ex s.top.regs ((s.top.code.blocks.getD s.top.blk.toNat default).ins.getD s.top.at_.toNat default).i.a _ (HS.hc O.log0 (i := 5) rfl) (OS.sv x2 O.log0 (i := 6) rfl) (by first | omega | exact hgr _ | exact aj wf.rows _ | (dsimp only; omega)) (by first | omega | exact hgr _ | exact aj wf.rows _ | (dsimp only; omega))) (⟨.inl rfl, ⟨.inl rfl, ⟨.inl rfl, ⟨.inl rfl, ⟨.inr List.not_mem_nil, ⟨.inr trivial, ⟨.inr trivial, ⟨.inr trivial, ⟨.inr trivial, ⟨.inr trivial, trivial⟩⟩⟩⟩⟩⟩⟩⟩⟩⟩) ?_
     rintro _ _ ⟨rt, rfl, rfl, rfl⟩
     refine ⟨fun b hb => absurd hb List.not_mem_nil, fun oA mb => ?_⟩
     have kp := HS.lg O.log0 O mb
     generalize ({ { oK with log := [] } with log := oA } : Heap) = qo at kp ⊢
     refine dU (id := .a) (db (α := Int) (ps := [(0, (iI (bC s.top.regs ((s.top.code.blocks.getD s.top.blk.toNat default).ins.getD s.top.at_.toNat default).i.a)))]) (cells := [(iI (bC s.top.regs ((s.top.code.blocks.getD s.top.blk.toNat default).ins.getD s.top.at_.toNat default).i.a))]) ([bC s.top.regs ((s.top.code.blocks.getD s.top.blk.toNat default).ins.getD s.top.at_.toNat default).i.a] : List Int) kp.log0 rfl rfl rfl (by kernel_rfl) ⟨[(iI (bC s.top.regs ((s.top.code.blocks.getD s.top.blk.toNat default).ins.getD s.top.at_.toNat default).i.a))], [], rfl, ⟨rfl, by first | omega | exact hgr _ | exact aj wf.rows _ | (dsimp only; omega)⟩, rfl⟩ rfl) rfl rfl (fun _ _ _ _ => iF rfl rfl rfl) (⟨.inl rfl, ⟨.inl rfl, ⟨.inl rfl, ⟨.inl rfl, ⟨.inl rfl, ⟨.inr trivial, ⟨.inr trivial, ⟨.inr trivial, ⟨.inr trivial, ⟨.inr trivial, ⟨.inr trivial, trivial⟩⟩⟩⟩⟩⟩⟩⟩⟩⟩⟩) ?_
     rintro _ nN nJ ⟨rc, rq, rfl, n8, dd, _⟩ mu k5
     replace dd := HS.lg dd kp k5
     generalize ({ nN with log := mu } : Heap) = o3 at dd ⊢
     have dd : HS _ _ _ [_, _, _, _, _, _, _, _, _, _, nJ] _ := dd
     refine dU (id := .x (po.map Prod.fst)) (eW (α := Int) (q := 7) V dd.log0 rfl rfl rfl (OS.sv n8 dd.log0 (i := 10) rfl) rfl rfl rfl rfl rfl rfl rfl (by first | omega | (simp only [List.length_cons, List.length_nil]; omega))) rfl rfl (by rintro _ _ lD ⟨kO, lB, rfl, kH, _, hwr⟩; exact ee rfl rfl (Wr.did hwr)) (⟨.inl rfl, ⟨.inl rfl, ⟨.inl rfl, ⟨.inl rfl, ⟨.inl rfl, ⟨.inl rfl, ⟨.inl rfl, ⟨.inl rfl, ⟨.inl rfl, ⟨.inl rfl, ⟨.inl rfl, ⟨.inr trivial, trivial⟩⟩⟩⟩⟩⟩⟩⟩⟩⟩⟩⟩) ?_
     rintro _ nO lD ⟨kO, lB, rfl, kH, dt, _⟩ mv k6
     replace dt := HS.lg dt dd k6
     generalize ({ nO with log := mv } : Heap) = o4 at dt ⊢
     have dt : HS _ _ _ [_, _, _, _, _, _, _, lD, _, _, _] _ := dt
     refine ai (v := (.pointer (some ⟨b, 0, none⟩))) (id := .v) (bN rfl) rfl rfl (aI rfl) (aF _) ?_
     refine ai (v := (.pointer (some ⟨b, 5, none⟩))) (id := .v) (bd rfl rfl) rfl rfl (aI rfl) (aF _) ?_
     refine ai (v := (.pointer (some ⟨b, 7, none⟩))) (id := .v) (bd rfl rfl) rfl rfl (aI rfl) (aF _) ?_
     refine jA (id := .x [b]) (aC (q := 0) dt.log0 rfl rfl rfl rfl rfl rfl rfl rfl rfl) rfl (by rintro _ _ _ ⟨_, hwr⟩; exact ee rfl rfl (Wr.did hwr)) (⟨.inl rfl, ⟨.inl rfl, ⟨.inl rfl, ⟨.inl rfl, ⟨.inl rfl, ⟨.inl rfl, ⟨.inl rfl, ⟨.inl rfl, ⟨.inl rfl, ⟨.inl rfl, ⟨.inl rfl, ⟨.inl rfl, ⟨.inl rfl, ⟨.inl rfl, ⟨.inl rfl, ⟨.inl rfl, trivial⟩⟩⟩⟩⟩⟩⟩⟩⟩⟩⟩⟩⟩⟩⟩⟩) ?_
     rintro _ nP _ ⟨fd, _⟩ mw k7
     replace fd := HS.lg fd dt k7
     generalize ({ nP with log := mw } : Heap) = o5 at fd ⊢
     have fd : HS _ _ _ [[(b, .cells [(.slice la P.length lk), (.slice ca hd.length ck), (.slice pa (ps ++ [bt]).length pk), (iI s.fuel), (.bool s.over), (iI s.kind), (iI s.code), (.slice kO (s.out ++ ([bC s.top.regs ((s.top.code.blocks.getD s.top.blk.toNat default).ins.getD s.top.at_.toNat default).i.a] : List Int)).length lB), (iI s.val)] none false)], _, _, _, _, _, _, _, _, _, _] _ := fd
     refine bZ ?_
     refine ay 1 rfl ?_
     exact aA ⟨.inl rfl, _, rfl, rfl, RunP.mk (bt := bt) (L := [I, A, nJ]) (by unfold bI; dsimp only [fu, fC, cb]; (repeat (first | rw [if_pos (by omega)] | rw [if_neg (by omega)] | rw [if_pos hlow] | rw [if_neg hlow] | (unfold cG; dsimp only [goT, az]) | (unfold f4; dsimp only [az]) | (unfold fY; dsimp only [ct, az]) | (unfold fQ; dsimp only [ct, az]) | (unfold cP; dsimp only [az]))); first | done | rfl | rw [hmap]) fd fR T y2 y3 y4 kH y7 U x2 Z⟩
    ·
     try simp only [BS] at k3
     refine wR 1 [] 145 146 [] [(145, (.bool (((s.top.code.blocks.getD s.top.blk.toNat default).ins.getD s.top.at_.toNat default).i.op == 34)))] trivial rfl fun _ => ?_
     refine ao 1 0 (v := (((s.top.code.blocks.getD s.top.blk.toNat default).ins.getD s.top.at_.toNat default).i.op == 34)) rfl rfl rfl rfl (fun e5 => ?_) (fun e5 => ?_)
     ·
      have h6 := e5
      try simp only [BS] at h6
      refine bw 0 (v := (((s.top.code.blocks.getD s.top.blk.toNat default).ins.getD s.top.at_.toNat default).i.op == 34)) rfl e5 rfl rfl ?_
      refine ah ?_
      let lM : Value := (.agg ⟨[(iI ((s.top.code.blocks.getD s.top.blk.toNat default).ins.getD s.top.at_.toNat default).i.op), (iI ((s.top.code.blocks.getD s.top.blk.toNat default).ins.getD s.top.at_.toNat default).i.a), (iI ((s.top.code.blocks.getD s.top.blk.toNat default).ins.getD s.top.at_.toNat default).i.b), (iI ((s.top.code.blocks.getD s.top.blk.toNat default).ins.getD s.top.at_.toNat default).i.c), (iI ((s.top.code.blocks.getD s.top.blk.toNat default).ins.getD s.top.at_.toNat default).i.n)]⟩)
      refine wRo 4 0 [(3, .o lM)] 148 151 [] [(148, (.pointer (some ⟨b, 0, none⟩))), (149, (.pointer (some ⟨bt.b, 0, none⟩))), (151, lM)] (vA (qn 45 0 5 (HS.hc O (i := 9) rfl) rfl rfl rfl rfl) trivial) rfl fun _ => ?_
      refine aJ (R := fun v H' => v = .tuple #[] ∧ RunP (.of H (b :: q.map Prod.fst)) F R P la lk b (bI P s) H') (ax rfl rfl rfl) rfl rfl ?_ ?_
      ·
       refine aL Tryd.func88 rfl rfl ?_
       refine ay 1 rfl ?_
       refine ah ?_
       refine br (dQ O rfl rfl) rfl rfl ?_
       rintro _ kN _ ⟨h5, rfl, dv, _⟩
       let hD : Fp := [(h5, .cells [(iI ((s.top.code.blocks.getD s.top.blk.toNat default).ins.getD s.top.at_.toNat default).i.op), (iI ((s.top.code.blocks.getD s.top.blk.toNat default).ins.getD s.top.at_.toNat default).i.a), (iI ((s.top.code.blocks.getD s.top.blk.toNat default).ins.getD s.top.at_.toNat default).i.b), (iI ((s.top.code.blocks.getD s.top.blk.toNat default).ins.getD s.top.at_.toNat default).i.c), (iI ((s.top.code.blocks.getD s.top.blk.toNat default).ins.getD s.top.at_.toNat default).i.n)] none false)]
       have dv : HS _ _ _ [_, _, _, _, _, _, _, _, _, _, hD] _ := dv
       refine au 2 rfl ?_
       obtain ⟨hF, hl, a1, b0, kB⟩ := SF.open y2 dv (q := 2) (i := ((s.top.code.blocks.getD s.top.blk.toNat default).ins.getD s.top.at_.toNat default).i.n.toNat) rfl (by first | omega | exact hgr _ | exact aj wf.rows _ | (dsimp only; omega))
       have a1 : HS _ _ _ [_, _, hF, _, _, _, _, _, _, _, _, hl] _ := a1
       have b0 : OS F (.slice (hd.getD ((s.top.code.blocks.getD s.top.blk.toNat default).ins.getD s.top.at_.toNat default).i.n.toNat default).a (hd.getD ((s.top.code.blocks.getD s.top.blk.toNat default).ins.getD s.top.at_.toNat default).i.n.toNat default).n (hd.getD ((s.top.code.blocks.getD s.top.blk.toNat default).ins.getD s.top.at_.toNat default).i.n.toNat default).k) (s.cells.getD ((s.top.code.blocks.getD s.top.blk.toNat default).ins.getD s.top.at_.toNat default).i.n.toNat default) hl := b0
       have pO := OS.nlen b0
       refine wRD 3 [(2, .o (iI ((s.top.code.blocks.getD s.top.blk.toNat default).ins.getD s.top.at_.toNat default).i.n)), (5, .o (iI ((s.top.code.blocks.getD s.top.blk.toNat default).ins.getD s.top.at_.toNat default).i.b)), (6, .o (iI (bC s.top.regs ((s.top.code.blocks.getD s.top.blk.toNat default).ins.getD s.top.at_.toNat default).i.b))), (7, .o (.pointer (cellA (hd.getD ((s.top.code.blocks.getD s.top.blk.toNat default).ins.getD s.top.at_.toNat default).i.n.toNat default) (bC s.top.regs ((s.top.code.blocks.getD s.top.blk.toNat default).ins.getD s.top.at_.toNat default).i.b))))] 7 14 [6] [(6, (.pointer (cellA (hd.getD ((s.top.code.blocks.getD s.top.blk.toNat default).ins.getD s.top.at_.toNat default).i.n.toNat default) (bC s.top.regs ((s.top.code.blocks.getD s.top.blk.toNat default).ins.getD s.top.at_.toNat default).i.b))))] (vA (ql 2 4 (hc0 (HS.hc dv (i := 10) rfl)) rfl rfl) (vA (ql 3 2 (hc0 (HS.hc dv (i := 10) rfl)) rfl rfl) (vA (ic.eB ex s.top.regs ((s.top.code.blocks.getD s.top.blk.toNat default).ins.getD s.top.at_.toNat default).i.b { kN with log := [] } (hc0 (HS.hc dv (i := 5) rfl)) (sv0 (OS.sv x2 dv (i := 6) rfl)) (by first | omega | exact hgr _ | exact aj wf.rows _ | (dsimp only; omega)) (by first | omega | exact hgr _ | exact aj wf.rows _ | (dsimp only; omega))) (vA (ic.cell_c_q ex hd (s.cells.getD ((s.top.code.blocks.getD s.top.blk.toNat default).ins.getD s.top.at_.toNat default).i.n.toNat default) ((s.top.code.blocks.getD s.top.blk.toNat default).ins.getD s.top.at_.toNat default).i.n (bC s.top.regs ((s.top.code.blocks.getD s.top.blk.toNat default).ins.getD s.top.at_.toNat default).i.b) { kN with log := [] } (hc0 (HS.hc a1 (i := 0) rfl)) (sv0 (OS.sv T a1 (i := 1) rfl)) (sv0 (OS.sv b0 a1 (i := 11) rfl)) (by first | omega | exact hgr _ | exact aj wf.rows _ | (dsimp only; omega)) (by first | omega | exact hgr _ | exact aj wf.rows _ | (dsimp only; omega))) trivial)))) rfl rfl fun _ => ?_
       by_cases hb : 0 ≤ bC s.top.regs ((s.top.code.blocks.getD s.top.blk.toNat default).ins.getD s.top.at_.toNat default).i.b ∧ bC s.top.regs ((s.top.code.blocks.getD s.top.blk.toNat default).ins.getD s.top.at_.toNat default).i.b < ((hd.getD ((s.top.code.blocks.getD s.top.blk.toNat default).ins.getD s.top.at_.toNat default).i.n.toNat default).n : Int)
       ·
        rw [cell_in hb]
        refine wR 1 [] 21 23 [] [(21, (.bool false))] trivial rfl fun _ => ?_
        refine wk_iff 1 (v := false) rfl rfl rfl rfl ?_
        refine wR 1 [(1, .o (iI ((s.top.code.blocks.getD s.top.blk.toNat default).ins.getD s.top.at_.toNat default).i.op))] 26 29 [] [(26, (.bool (((s.top.code.blocks.getD s.top.blk.toNat default).ins.getD s.top.at_.toNat default).i.op == 34)))] (vA (ql 3 0 (HS.hc a1 (i := 10) rfl) rfl rfl) trivial) rfl fun _ => ?_
        refine bw 0 (v := (((s.top.code.blocks.getD s.top.blk.toNat default).ins.getD s.top.at_.toNat default).i.op == 34)) rfl e5 rfl rfl ?_
        refine aR rfl ?_
        refine fm (.pointer (some ⟨bt.b, 0, none⟩)) rfl rfl rfl ?_
        refine ai (v := (.pointer (some ⟨h5, 1, none⟩))) (id := .v) (bd rfl rfl) rfl rfl (aI rfl) (aF _) ?_
        refine ai (v := (iI ((s.top.code.blocks.getD s.top.blk.toNat default).ins.getD s.top.at_.toNat default).i.a)) (id := .l h5) (aT (i := 1) rfl rfl (HS.hc a1.log0 (i := 10) rfl) rfl rfl) rfl rfl (bn rfl) (⟨.inl rfl, ⟨.inr trivial, trivial⟩⟩) ?_
        refine fm (.pointer (some ⟨sB (.slice (hd.getD ((s.top.code.blocks.getD s.top.blk.toNat default).ins.getD s.top.at_.toNat default).i.n.toNat default).a (hd.getD ((s.top.code.blocks.getD s.top.blk.toNat default).ins.getD s.top.at_.toNat default).i.n.toNat default).n (hd.getD ((s.top.code.blocks.getD s.top.blk.toNat default).ins.getD s.top.at_.toNat default).i.n.toNat default).k), sO (.slice (hd.getD ((s.top.code.blocks.getD s.top.blk.toNat default).ins.getD s.top.at_.toNat default).i.n.toNat default).a (hd.getD ((s.top.code.blocks.getD s.top.blk.toNat default).ins.getD s.top.at_.toNat default).i.n.toNat default).n (hd.getD ((s.top.code.blocks.getD s.top.blk.toNat default).ins.getD s.top.at_.toNat default).i.n.toNat default).k) + (bC s.top.regs ((s.top.code.blocks.getD s.top.blk.toNat default).ins.getD s.top.at_.toNat default).i.b).toNat * Rp.sz Int, none⟩)) rfl rfl rfl ?_
        refine ai (v := (.pointer (some ⟨sB (.slice (hd.getD ((s.top.code.blocks.getD s.top.blk.toNat default).ins.getD s.top.at_.toNat default).i.n.toNat default).a (hd.getD ((s.top.code.blocks.getD s.top.blk.toNat default).ins.getD s.top.at_.toNat default).i.n.toNat default).n (hd.getD ((s.top.code.blocks.getD s.top.blk.toNat default).ins.getD s.top.at_.toNat default).i.n.toNat default).k), sO (.slice (hd.getD ((s.top.code.blocks.getD s.top.blk.toNat default).ins.getD s.top.at_.toNat default).i.n.toNat default).a (hd.getD ((s.top.code.blocks.getD s.top.blk.toNat default).ins.getD s.top.at_.toNat default).i.n.toNat default).n (hd.getD ((s.top.code.blocks.getD s.top.blk.toNat default).ins.getD s.top.at_.toNat default).i.n.toNat default).k) + (bC s.top.regs ((s.top.code.blocks.getD s.top.blk.toNat default).ins.getD s.top.at_.toNat default).i.b).toNat * Rp.sz Int, none⟩))) (id := .v) (bN rfl) rfl rfl (aI rfl) (aF _) ?_
        obtain ⟨px, md, lX⟩ := Sv.at (OS.sv b0 a1.log0 (i := 11) rfl) (dM (x := (0 : Int)) (show (bC s.top.regs ((s.top.code.blocks.getD s.top.blk.toNat default).ins.getD s.top.at_.toNat default).i.b).toNat < (s.cells.getD ((s.top.code.blocks.getD s.top.blk.toNat default).ins.getD s.top.at_.toNat default).i.n.toNat default).length from by first | omega | exact hgr _ | exact aj wf.rows _ | (dsimp only; omega)))
        obtain ⟨rfl, oS⟩ := md
        refine ai (v := (iI ((s.cells.getD ((s.top.code.blocks.getD s.top.blk.toNat default).ins.getD s.top.at_.toNat default).i.n.toNat default).getD (bC s.top.regs ((s.top.code.blocks.getD s.top.blk.toNat default).ins.getD s.top.at_.toNat default).i.b).toNat 0))) (id := .l (sB (.slice (hd.getD ((s.top.code.blocks.getD s.top.blk.toNat default).ins.getD s.top.at_.toNat default).i.n.toNat default).a (hd.getD ((s.top.code.blocks.getD s.top.blk.toNat default).ins.getD s.top.at_.toNat default).i.n.toNat default).n (hd.getD ((s.top.code.blocks.getD s.top.blk.toNat default).ins.getD s.top.at_.toNat default).i.n.toNat default).k))) (aT (i := 0) rfl rfl lX rfl rfl) rfl rfl (bn rfl) (⟨.inl rfl, ⟨.inl rfl, ⟨.inr trivial, ⟨.inr trivial, ⟨.inr trivial, trivial⟩⟩⟩⟩⟩) ?_
        refine a9 (W := ((([(bt.b, .cells [(iI s.top.code.params), (iI s.top.code.regs), (.slice ba s.top.code.blocks.length bk), (.slice ra s.top.regs.length rk), (.slice aa s.top.args.length ak), (iI s.top.blk), (iI (s.top.at_ + 1)), (iI s.top.to_)] none false)] : Fp) ++ pg).map Prod.fst)) (ax rfl rfl rfl) rfl rfl rfl (ii ex s.top.regs ((s.top.code.blocks.getD s.top.blk.toNat default).ins.getD s.top.at_.toNat default).i.a ((s.cells.getD ((s.top.code.blocks.getD s.top.blk.toNat default).ins.getD s.top.at_.toNat default).i.n.toNat default).getD (bC s.top.regs ((s.top.code.blocks.getD s.top.blk.toNat default).ins.getD s.top.at_.toNat default).i.b).toNat 0) (HS.call2 a1.log0 (i := 5) (j := 6) (by decide) rfl rfl) x2 (by first | omega | exact hgr _ | exact aj wf.rows _ | (dsimp only; omega)) (by first | omega | exact hgr _ | exact aj wf.rows _ | (dsimp only; omega)) (by first | omega | exact hgr _ | exact dO (hgr _) | exact en | exact cx _)) (⟨.inl rfl, ⟨.inl rfl, ⟨.inl rfl, ⟨.inl rfl, ⟨.inl rfl, ⟨.inl rfl, trivial⟩⟩⟩⟩⟩⟩) ?_
        rintro _ nQ ⟨m0, ny, nn, mQ, pR, bl, b1, rfl, me⟩
        refine ⟨HS.didW b1, fun mx k8 => ?_⟩
        replace b1 := HS.back2 a1.log0 (i := 5) (j := 6) (by decide) rfl rfl rfl (fun _ hb => hb) b1
        replace b1 := HS.lg b1 a1 k8
        generalize ({ nQ with log := mx } : Heap) = o6 at b1 ⊢
        have b1 : HS _ _ _ [ez, pc, hF, pp, pl, [(bt.b, .cells [(iI s.top.code.params), (iI s.top.code.regs), (.slice ba s.top.code.blocks.length bk), (.slice m0 ny nn), (.slice aa s.top.args.length ak), (iI s.top.blk), (iI (s.top.at_ + 1)), (iI s.top.to_)] none false)], mQ, po, I, A, hD, hl] _ := b1
        replace b0 := b0.mono bl
        replace U := U.mono bl
        replace Z := Z.mono bl
        replace T := T.mono bl
        replace y3 := y3.mono bl
        replace V := V.mono bl
        replace y4 := FAM.mono (fun k => CR.mono bl k) y4
        refine bZ ?_
        refine ay 1 rfl ?_
        obtain ⟨lT, hK, kD⟩ := SF.shut0 kB (bl) b1 (q := 2) (m := 11) (by decide) rfl rfl b0
        have hK : HS _ _ _ [_, _, lT, _, _, _, _, _, _, _, _, []] _ := hK
        have pz := FAM.len kD
        exact aA ⟨.inl rfl, _, rfl, rfl, RunP.mk (bt := bt) (L := [I, A, hD, []]) (by unfold bI; dsimp only [fu, fC, cb]; (repeat (first | rw [if_pos (by omega)] | rw [if_neg (by omega)] | rw [if_pos hlow] | rw [if_neg hlow] | (unfold cG; dsimp only [goT, az]) | (unfold f4; dsimp only [az]) | (unfold fY; dsimp only [ct, az]) | (unfold fQ; dsimp only [ct, az]) | (unfold cP; dsimp only [az]))); first | done | rfl | rw [hmap]) hK (bl) T kD y3 y4 V y7 U me Z⟩
       ·
        rw [jU hb]
        refine wR 1 [] 21 23 [] [(21, (.bool true))] trivial rfl fun _ => ?_
        refine bw 0 (v := true) rfl rfl rfl rfl ?_
        refine ah ?_
        refine wm (.pointer (some ⟨b, 0, none⟩)) rfl rfl rfl ?_
        refine aJ (ax rfl rfl rfl) rfl rfl (i5 ex (2) (2) (0) (HS.callOwn a1 (i := 0) rfl)) ?_
        rintro _ p1 ⟨g5, rfl⟩
        replace g5 := HS.backOwn a1 (i := 0) rfl rfl (fun _ hb => hb) g5
        have g5 : HS _ _ _ [[(b, .cells [(.slice la P.length lk), (.slice ca hd.length ck), (.slice pa (ps ++ [bt]).length pk), (iI s.fuel), (.bool true), (iI 2), (iI 2), (.slice oa s.out.length ok), (iI 0)] none false)], pc, hF, pp, pl, [(bt.b, .cells [(iI s.top.code.params), (iI s.top.code.regs), (.slice ba s.top.code.blocks.length bk), (.slice ra s.top.regs.length rk), (.slice aa s.top.args.length ak), (iI s.top.blk), (iI (s.top.at_ + 1)), (iI s.top.to_)] none false)], pg, po, I, A, hD, hl] _ := g5
        refine au 1 rfl ?_
        obtain ⟨lU, hM, kE⟩ := SF.shut0 kB fR g5 (q := 2) (m := 11) (by decide) rfl rfl b0
        have hM : HS _ _ _ [_, _, lU, _, _, _, _, _, _, _, _, []] _ := hM
        have pA := FAM.len kE
        exact aA ⟨.inl rfl, _, rfl, rfl, RunP.mk (bt := bt) (L := [I, A, hD, []]) (by unfold bI; dsimp only [fu, fC, cb]; (repeat (first | rw [if_pos (by omega)] | rw [if_neg (by omega)] | rw [if_pos hlow] | rw [if_neg hlow] | (unfold cG; dsimp only [goT, az]) | (unfold f4; dsimp only [az]) | (unfold fY; dsimp only [ct, az]) | (unfold fQ; dsimp only [ct, az]) | (unfold cP; dsimp only [az]))); first | done | rfl | rw [hmap]) hM fR T kE y3 y4 V (by first | exact hgr _ | exact ⟨by decide, by decide⟩ | omega) U x2 Z⟩
      rintro _ p2 ⟨rfl, j8⟩
      refine au 1 rfl ?_
      exact aA ⟨.inl rfl, _, rfl, rfl, j8⟩
     ·
      have h6 := e5
      try simp only [BS] at h6
      refine wR 1 [] 145 147 [] [(145, (.bool (((s.top.code.blocks.getD s.top.blk.toNat default).ins.getD s.top.at_.toNat default).i.op == 35)))] trivial rfl fun _ => ?_
      refine ao 0 0 (v := (((s.top.code.blocks.getD s.top.blk.toNat default).ins.getD s.top.at_.toNat default).i.op == 35)) rfl rfl rfl rfl (fun h7 => ?_) (fun h7 => ?_)
      ·
       try simp only [BS] at h7
       refine ah ?_
       let lN : Value := (.agg ⟨[(iI ((s.top.code.blocks.getD s.top.blk.toNat default).ins.getD s.top.at_.toNat default).i.op), (iI ((s.top.code.blocks.getD s.top.blk.toNat default).ins.getD s.top.at_.toNat default).i.a), (iI ((s.top.code.blocks.getD s.top.blk.toNat default).ins.getD s.top.at_.toNat default).i.b), (iI ((s.top.code.blocks.getD s.top.blk.toNat default).ins.getD s.top.at_.toNat default).i.c), (iI ((s.top.code.blocks.getD s.top.blk.toNat default).ins.getD s.top.at_.toNat default).i.n)]⟩)
       refine wRo 4 0 [(3, .o lN)] 148 151 [] [(148, (.pointer (some ⟨b, 0, none⟩))), (149, (.pointer (some ⟨bt.b, 0, none⟩))), (151, lN)] (vA (qn 45 0 5 (HS.hc O (i := 9) rfl) rfl rfl rfl rfl) trivial) rfl fun _ => ?_
       refine aJ (R := fun v H' => v = .tuple #[] ∧ RunP (.of H (b :: q.map Prod.fst)) F R P la lk b (bI P s) H') (ax rfl rfl rfl) rfl rfl ?_ ?_
       ·
        refine aL Tryd.func88 rfl rfl ?_
        refine ay 1 rfl ?_
        refine ah ?_
        refine br (dQ O rfl rfl) rfl rfl ?_
        rintro _ h3 _ ⟨nZ, rfl, d1, _⟩
        let h2 : Fp := [(nZ, .cells [(iI ((s.top.code.blocks.getD s.top.blk.toNat default).ins.getD s.top.at_.toNat default).i.op), (iI ((s.top.code.blocks.getD s.top.blk.toNat default).ins.getD s.top.at_.toNat default).i.a), (iI ((s.top.code.blocks.getD s.top.blk.toNat default).ins.getD s.top.at_.toNat default).i.b), (iI ((s.top.code.blocks.getD s.top.blk.toNat default).ins.getD s.top.at_.toNat default).i.c), (iI ((s.top.code.blocks.getD s.top.blk.toNat default).ins.getD s.top.at_.toNat default).i.n)] none false)]
        have d1 : HS _ _ _ [_, _, _, _, _, _, _, _, _, _, h2] _ := d1
        refine au 2 rfl ?_
        obtain ⟨kA, hE, a6, e6, kC⟩ := SF.open y2 d1 (q := 2) (i := ((s.top.code.blocks.getD s.top.blk.toNat default).ins.getD s.top.at_.toNat default).i.n.toNat) rfl (by first | omega | exact hgr _ | exact aj wf.rows _ | (dsimp only; omega))
        have a6 : HS _ _ _ [_, _, kA, _, _, _, _, _, _, _, _, hE] _ := a6
        have e6 : OS F (.slice (hd.getD ((s.top.code.blocks.getD s.top.blk.toNat default).ins.getD s.top.at_.toNat default).i.n.toNat default).a (hd.getD ((s.top.code.blocks.getD s.top.blk.toNat default).ins.getD s.top.at_.toNat default).i.n.toNat default).n (hd.getD ((s.top.code.blocks.getD s.top.blk.toNat default).ins.getD s.top.at_.toNat default).i.n.toNat default).k) (s.cells.getD ((s.top.code.blocks.getD s.top.blk.toNat default).ins.getD s.top.at_.toNat default).i.n.toNat default) hE := e6
        have pP := OS.nlen e6
        refine wRD 3 [(2, .o (iI ((s.top.code.blocks.getD s.top.blk.toNat default).ins.getD s.top.at_.toNat default).i.n)), (5, .o (iI ((s.top.code.blocks.getD s.top.blk.toNat default).ins.getD s.top.at_.toNat default).i.b)), (6, .o (iI (bC s.top.regs ((s.top.code.blocks.getD s.top.blk.toNat default).ins.getD s.top.at_.toNat default).i.b))), (7, .o (.pointer (cellA (hd.getD ((s.top.code.blocks.getD s.top.blk.toNat default).ins.getD s.top.at_.toNat default).i.n.toNat default) (bC s.top.regs ((s.top.code.blocks.getD s.top.blk.toNat default).ins.getD s.top.at_.toNat default).i.b))))] 7 14 [6] [(6, (.pointer (cellA (hd.getD ((s.top.code.blocks.getD s.top.blk.toNat default).ins.getD s.top.at_.toNat default).i.n.toNat default) (bC s.top.regs ((s.top.code.blocks.getD s.top.blk.toNat default).ins.getD s.top.at_.toNat default).i.b))))] (vA (ql 2 4 (hc0 (HS.hc d1 (i := 10) rfl)) rfl rfl) (vA (ql 3 2 (hc0 (HS.hc d1 (i := 10) rfl)) rfl rfl) (vA (ic.eB ex s.top.regs ((s.top.code.blocks.getD s.top.blk.toNat default).ins.getD s.top.at_.toNat default).i.b { h3 with log := [] } (hc0 (HS.hc d1 (i := 5) rfl)) (sv0 (OS.sv x2 d1 (i := 6) rfl)) (by first | omega | exact hgr _ | exact aj wf.rows _ | (dsimp only; omega)) (by first | omega | exact hgr _ | exact aj wf.rows _ | (dsimp only; omega))) (vA (ic.cell_c_q ex hd (s.cells.getD ((s.top.code.blocks.getD s.top.blk.toNat default).ins.getD s.top.at_.toNat default).i.n.toNat default) ((s.top.code.blocks.getD s.top.blk.toNat default).ins.getD s.top.at_.toNat default).i.n (bC s.top.regs ((s.top.code.blocks.getD s.top.blk.toNat default).ins.getD s.top.at_.toNat default).i.b) { h3 with log := [] } (hc0 (HS.hc a6 (i := 0) rfl)) (sv0 (OS.sv T a6 (i := 1) rfl)) (sv0 (OS.sv e6 a6 (i := 11) rfl)) (by first | omega | exact hgr _ | exact aj wf.rows _ | (dsimp only; omega)) (by first | omega | exact hgr _ | exact aj wf.rows _ | (dsimp only; omega))) trivial)))) rfl rfl fun _ => ?_
        by_cases hb : 0 ≤ bC s.top.regs ((s.top.code.blocks.getD s.top.blk.toNat default).ins.getD s.top.at_.toNat default).i.b ∧ bC s.top.regs ((s.top.code.blocks.getD s.top.blk.toNat default).ins.getD s.top.at_.toNat default).i.b < ((hd.getD ((s.top.code.blocks.getD s.top.blk.toNat default).ins.getD s.top.at_.toNat default).i.n.toNat default).n : Int)
        ·
         rw [cell_in hb]
         refine wR 1 [] 21 23 [] [(21, (.bool false))] trivial rfl fun _ => ?_
         refine wk_iff 1 (v := false) rfl rfl rfl rfl ?_
         refine wR 1 [(1, .o (iI ((s.top.code.blocks.getD s.top.blk.toNat default).ins.getD s.top.at_.toNat default).i.op))] 26 29 [] [(26, (.bool (((s.top.code.blocks.getD s.top.blk.toNat default).ins.getD s.top.at_.toNat default).i.op == 34)))] (vA (ql 3 0 (HS.hc a6 (i := 10) rfl) rfl rfl) trivial) rfl fun _ => ?_
         refine wk_iff 0 (v := (((s.top.code.blocks.getD s.top.blk.toNat default).ins.getD s.top.at_.toNat default).i.op == 34)) rfl e5 rfl rfl ?_
         refine ah ?_
         refine wRo 6 0 [(3, .o (iI ((s.top.code.blocks.getD s.top.blk.toNat default).ins.getD s.top.at_.toNat default).i.a)), (4, .o (iI (bC s.top.regs ((s.top.code.blocks.getD s.top.blk.toNat default).ins.getD s.top.at_.toNat default).i.a)))] 15 20 [] [(19, (iI (bC s.top.regs ((s.top.code.blocks.getD s.top.blk.toNat default).ins.getD s.top.at_.toNat default).i.a))), (20, (.pointer (some ⟨sB (.slice (hd.getD ((s.top.code.blocks.getD s.top.blk.toNat default).ins.getD s.top.at_.toNat default).i.n.toNat default).a (hd.getD ((s.top.code.blocks.getD s.top.blk.toNat default).ins.getD s.top.at_.toNat default).i.n.toNat default).n (hd.getD ((s.top.code.blocks.getD s.top.blk.toNat default).ins.getD s.top.at_.toNat default).i.n.toNat default).k), sO (.slice (hd.getD ((s.top.code.blocks.getD s.top.blk.toNat default).ins.getD s.top.at_.toNat default).i.n.toNat default).a (hd.getD ((s.top.code.blocks.getD s.top.blk.toNat default).ins.getD s.top.at_.toNat default).i.n.toNat default).n (hd.getD ((s.top.code.blocks.getD s.top.blk.toNat default).ins.getD s.top.at_.toNat default).i.n.toNat default).k) + (bC s.top.regs ((s.top.code.blocks.getD s.top.blk.toNat default).ins.getD s.top.at_.toNat default).i.b).toNat * Rp.sz Int, none⟩)))] (vA (ql 3 1 (HS.hc a6 (i := 10) rfl) rfl rfl) (vA (ic.eB ex s.top.regs ((s.top.code.blocks.getD s.top.blk.toNat default).ins.getD s.top.at_.toNat default).i.a h3 (HS.hc a6 (i := 5) rfl) (OS.sv x2 a6 (i := 6) rfl) (by first | omega | exact hgr _ | exact aj wf.rows _ | (dsimp only; omega)) (by first | omega | exact hgr _ | exact aj wf.rows _ | (dsimp only; omega))) trivial)) rfl fun _ => ?_
         refine aN (rs_st (α := Int) (j := (bC s.top.regs ((s.top.code.blocks.getD s.top.blk.toNat default).ins.getD s.top.at_.toNat default).i.b).toNat) (off := 0) (q := 11) (bC s.top.regs ((s.top.code.blocks.getD s.top.blk.toNat default).ins.getD s.top.at_.toNat default).i.a) e6 a6 rfl rfl rfl rfl rfl rfl rfl rfl (dM (x := (0 : Int)) (by first | omega | exact hgr _ | exact aj wf.rows _ | (dsimp only; omega))) rfl (by rintro cs ⟨rfl, _⟩; exact ⟨Nat.le_of_ble_eq_true rfl, rfl, by first | omega | exact hgr _ | exact aj wf.rows _ | (dsimp only; omega)⟩)) rfl ?_
         rintro _ p3 oB ⟨kI, hQ, _⟩
         have hQ : HS _ _ _ [_, _, _, _, _, _, _, _, _, _, _, oB] _ := hQ
         have oV := OS.len' kI
         refine au 1 rfl ?_
         obtain ⟨lV, hS, kF⟩ := SF.shut kC fR hQ (q := 2) (m := 11) (by decide) rfl rfl kI
         have hS : HS _ _ _ [_, _, lV, _, _, _, _, _, _, _, _, []] _ := hS
         have pB := FAM.len kF
         exact aA ⟨.inl rfl, _, rfl, rfl, RunP.mk (bt := bt) (L := [I, A, h2, []]) (by unfold bI; dsimp only [fu, fC, cb]; (repeat (first | rw [if_pos (by omega)] | rw [if_neg (by omega)] | rw [if_pos hlow] | rw [if_neg hlow] | (unfold cG; dsimp only [goT, az]) | (unfold f4; dsimp only [az]) | (unfold fY; dsimp only [ct, az]) | (unfold fQ; dsimp only [ct, az]) | (unfold cP; dsimp only [az]))); first | done | rfl | rw [hmap]) hS fR T kF y3 y4 V y7 U x2 Z⟩
        ·
         rw [jU hb]
         refine wR 1 [] 21 23 [] [(21, (.bool true))] trivial rfl fun _ => ?_
         refine bw 0 (v := true) rfl rfl rfl rfl ?_
         refine ah ?_
         refine wm (.pointer (some ⟨b, 0, none⟩)) rfl rfl rfl ?_
         refine aJ (ax rfl rfl rfl) rfl rfl (i5 ex (2) (2) (0) (HS.callOwn a6 (i := 0) rfl)) ?_
         rintro _ p4 ⟨g6, rfl⟩
         replace g6 := HS.backOwn a6 (i := 0) rfl rfl (fun _ hb => hb) g6
         have g6 : HS _ _ _ [[(b, .cells [(.slice la P.length lk), (.slice ca hd.length ck), (.slice pa (ps ++ [bt]).length pk), (iI s.fuel), (.bool true), (iI 2), (iI 2), (.slice oa s.out.length ok), (iI 0)] none false)], pc, kA, pp, pl, [(bt.b, .cells [(iI s.top.code.params), (iI s.top.code.regs), (.slice ba s.top.code.blocks.length bk), (.slice ra s.top.regs.length rk), (.slice aa s.top.args.length ak), (iI s.top.blk), (iI (s.top.at_ + 1)), (iI s.top.to_)] none false)], pg, po, I, A, h2, hE] _ := g6
         refine au 1 rfl ?_
         obtain ⟨lW, hT, kG⟩ := SF.shut0 kC fR g6 (q := 2) (m := 11) (by decide) rfl rfl e6
         have hT : HS _ _ _ [_, _, lW, _, _, _, _, _, _, _, _, []] _ := hT
         have pC := FAM.len kG
         exact aA ⟨.inl rfl, _, rfl, rfl, RunP.mk (bt := bt) (L := [I, A, h2, []]) (by unfold bI; dsimp only [fu, fC, cb]; (repeat (first | rw [if_pos (by omega)] | rw [if_neg (by omega)] | rw [if_pos hlow] | rw [if_neg hlow] | (unfold cG; dsimp only [goT, az]) | (unfold f4; dsimp only [az]) | (unfold fY; dsimp only [ct, az]) | (unfold fQ; dsimp only [ct, az]) | (unfold cP; dsimp only [az]))); first | done | rfl | rw [hmap]) hT fR T kG y3 y4 V (by first | exact hgr _ | exact ⟨by decide, by decide⟩ | omega) U x2 Z⟩
       rintro _ p5 ⟨rfl, j9⟩
       refine au 1 rfl ?_
       exact aA ⟨.inl rfl, _, rfl, rfl, j9⟩
      ·
       try simp only [BS] at h7
       refine ah ?_
       let lO : Value := (.agg ⟨[(iI ((s.top.code.blocks.getD s.top.blk.toNat default).ins.getD s.top.at_.toNat default).i.op), (iI ((s.top.code.blocks.getD s.top.blk.toNat default).ins.getD s.top.at_.toNat default).i.a), (iI ((s.top.code.blocks.getD s.top.blk.toNat default).ins.getD s.top.at_.toNat default).i.b), (iI ((s.top.code.blocks.getD s.top.blk.toNat default).ins.getD s.top.at_.toNat default).i.c), (iI ((s.top.code.blocks.getD s.top.blk.toNat default).ins.getD s.top.at_.toNat default).i.n)]⟩)
       refine wRo 4 0 [(3, .o lO)] 60 63 [] [(60, (.pointer (some ⟨b, 0, none⟩))), (61, (.pointer (some ⟨bt.b, 0, none⟩))), (63, lO)] (vA (qn 45 0 5 (HS.hc O (i := 9) rfl) rfl rfl rfl rfl) trivial) rfl fun _ => ?_
       refine aJ (R := fun v H' => v = .tuple #[] ∧ RunP (.of H (b :: q.map Prod.fst)) F R P la lk b (bI P s) H') (ax rfl rfl rfl) rfl rfl ?_ ?_
       ·
        refine aL Tryd.func89 rfl rfl ?_
        refine ay 1 rfl ?_
        refine ah ?_
        refine br (dQ O rfl rfl) rfl rfl ?_
        rintro _ dk _ ⟨E, rfl, z, _⟩
        let av : Fp := [(E, .cells [(iI ((s.top.code.blocks.getD s.top.blk.toNat default).ins.getD s.top.at_.toNat default).i.op), (iI ((s.top.code.blocks.getD s.top.blk.toNat default).ins.getD s.top.at_.toNat default).i.a), (iI ((s.top.code.blocks.getD s.top.blk.toNat default).ins.getD s.top.at_.toNat default).i.b), (iI ((s.top.code.blocks.getD s.top.blk.toNat default).ins.getD s.top.at_.toNat default).i.c), (iI ((s.top.code.blocks.getD s.top.blk.toNat default).ins.getD s.top.at_.toNat default).i.n)] none false)]
        have z : HS _ _ _ [_, _, _, _, _, _, _, _, _, _, av] _ := z
        refine au 2 rfl ?_
        refine wR 3 [(1, .o (iI ((s.top.code.blocks.getD s.top.blk.toNat default).ins.getD s.top.at_.toNat default).i.op))] 7 8 [] [(8, (iI ((s.top.code.blocks.getD s.top.blk.toNat default).ins.getD s.top.at_.toNat default).i.op))] (vA (ql 3 0 (HS.hc z (i := 10) rfl) rfl rfl) trivial) rfl fun _ => ?_
        refine wR 1 [] 41 42 [] [(41, (.bool (((s.top.code.blocks.getD s.top.blk.toNat default).ins.getD s.top.at_.toNat default).i.op == 10)))] trivial rfl fun _ => ?_
        refine ao 0 1 (v := (((s.top.code.blocks.getD s.top.blk.toNat default).ins.getD s.top.at_.toNat default).i.op == 10)) rfl rfl rfl rfl (fun h8 => ?_) (fun h8 => ?_)
        ·
         try simp only [BS] at h8
         refine aR rfl ?_
         refine fm (.pointer (some ⟨bt.b, 0, none⟩)) rfl rfl rfl ?_
         refine ai (v := (.pointer (some ⟨E, 1, none⟩))) (id := .v) (bd rfl rfl) rfl rfl (aI rfl) (aF _) ?_
         refine ai (v := (iI ((s.top.code.blocks.getD s.top.blk.toNat default).ins.getD s.top.at_.toNat default).i.a)) (id := .l E) (aT (i := 1) rfl rfl (HS.hc z.log0 (i := 10) rfl) rfl rfl) rfl rfl (bn rfl) (⟨.inl rfl, ⟨.inr trivial, trivial⟩⟩) ?_
         refine fm (.pointer (some ⟨bt.b, 0, none⟩)) rfl rfl rfl ?_
         refine ai (v := (.pointer (some ⟨E, 2, none⟩))) (id := .v) (bd rfl rfl) rfl rfl (aI rfl) (aF _) ?_
         refine ai (v := (iI ((s.top.code.blocks.getD s.top.blk.toNat default).ins.getD s.top.at_.toNat default).i.b)) (id := .l E) (aT (i := 2) rfl rfl (HS.hc z.log0 (i := 10) rfl) rfl rfl) rfl rfl (bn rfl) (⟨.inl rfl, ⟨.inr trivial, ⟨.inr trivial, ⟨.inr trivial, ⟨.inr trivial, trivial⟩⟩⟩⟩⟩) ?_
         refine a9 (W := []) (ax rfl rfl rfl) rfl rfl rfl (ic.iT ex s.top.regs ((s.top.code.blocks.getD s.top.blk.toNat default).ins.getD s.top.at_.toNat default).i.b _ (HS.hc z.log0 (i := 5) rfl) (OS.sv x2 z.log0 (i := 6) rfl) (by first | omega | exact hgr _ | exact aj wf.rows _ | (dsimp only; omega)) (by first | omega | exact hgr _ | exact aj wf.rows _ | (dsimp only; omega))) (⟨.inl rfl, ⟨.inl rfl, ⟨.inl rfl, ⟨.inr List.not_mem_nil, ⟨.inr trivial, ⟨.inr trivial, trivial⟩⟩⟩⟩⟩⟩) ?_
         rintro _ _ ⟨qF, rfl, rfl, rfl⟩
         refine ⟨fun b hb => absurd hb List.not_mem_nil, fun my k9 => ?_⟩
         have hm := HS.lg z.log0 z k9
         generalize ({ { dk with log := [] } with log := my } : Heap) = o7 at hm ⊢
         refine a9 (W := ((([(bt.b, .cells [(iI s.top.code.params), (iI s.top.code.regs), (.slice ba s.top.code.blocks.length bk), (.slice ra s.top.regs.length rk), (.slice aa s.top.args.length ak), (iI s.top.blk), (iI (s.top.at_ + 1)), (iI s.top.to_)] none false)] : Fp) ++ pg).map Prod.fst)) (ax rfl rfl rfl) rfl rfl rfl (ii ex s.top.regs ((s.top.code.blocks.getD s.top.blk.toNat default).ins.getD s.top.at_.toNat default).i.a (bC s.top.regs ((s.top.code.blocks.getD s.top.blk.toNat default).ins.getD s.top.at_.toNat default).i.b) (HS.call2 hm.log0 (i := 5) (j := 6) (by decide) rfl rfl) x2 (by first | omega | exact hgr _ | exact aj wf.rows _ | (dsimp only; omega)) (by first | omega | exact hgr _ | exact aj wf.rows _ | (dsimp only; omega)) (by first | omega | exact hgr _ | exact dO (hgr _) | exact en | exact cx _)) (⟨.inl rfl, ⟨.inl rfl, ⟨.inl rfl, ⟨.inl rfl, ⟨.inl rfl, ⟨.inl rfl, ⟨.inl rfl, trivial⟩⟩⟩⟩⟩⟩⟩) ?_
         rintro _ nR ⟨m9, nz, np, mR, pS, cl, b2, rfl, mf⟩
         refine ⟨HS.didW b2, fun mz lb => ?_⟩
         replace b2 := HS.back2 hm.log0 (i := 5) (j := 6) (by decide) rfl rfl rfl (fun _ hb => hb) b2
         replace b2 := HS.lg b2 hm lb
         generalize ({ nR with log := mz } : Heap) = o8 at b2 ⊢
         have b2 : HS _ _ _ [ez, pc, pr, pp, pl, [(bt.b, .cells [(iI s.top.code.params), (iI s.top.code.regs), (.slice ba s.top.code.blocks.length bk), (.slice m9 nz np), (.slice aa s.top.args.length ak), (iI s.top.blk), (iI (s.top.at_ + 1)), (iI s.top.to_)] none false)], mR, po, I, A, av] _ := b2
         replace U := U.mono cl
         replace Z := Z.mono cl
         replace T := T.mono cl
         replace y3 := y3.mono cl
         replace V := V.mono cl
         replace y2 := SF.mono cl y2
         replace y4 := FAM.mono (fun k => CR.mono cl k) y4
         refine bZ ?_
         refine ay 1 rfl ?_
         exact aA ⟨.inl rfl, _, rfl, rfl, RunP.mk (bt := bt) (L := [I, A, av]) (by unfold bI; dsimp only [fu, fC, cb]; (repeat (first | rw [if_pos (by omega)] | rw [if_neg (by omega)] | rw [if_pos hlow] | rw [if_neg hlow] | (unfold cG; dsimp only [goT, az]) | (unfold f4; dsimp only [az]) | (unfold fY; dsimp only [ct, az]) | (unfold fQ; dsimp only [ct, az]) | (unfold cP; dsimp only [az]))); first | done | rfl | rw [hmap]) b2 (cl) T y2 y3 y4 V y7 U mf Z⟩
        ·
         try simp only [BS] at h8
         refine wR 1 [] 51 52 [] [(51, (.bool (((s.top.code.blocks.getD s.top.blk.toNat default).ins.getD s.top.at_.toNat default).i.op == 11)))] trivial rfl fun _ => ?_
         refine ao 1 1 (v := (((s.top.code.blocks.getD s.top.blk.toNat default).ins.getD s.top.at_.toNat default).i.op == 11)) rfl rfl rfl rfl (fun ih => ?_) (fun ih => ?_)
         ·
          try simp only [BS] at ih
          refine wR 1 [(2, .o (iI ((s.top.code.blocks.getD s.top.blk.toNat default).ins.getD s.top.at_.toNat default).i.c)), (3, .o (iI (bC s.top.regs ((s.top.code.blocks.getD s.top.blk.toNat default).ins.getD s.top.at_.toNat default).i.c)))] 53 57 [] [(57, (.bool (bC s.top.regs ((s.top.code.blocks.getD s.top.blk.toNat default).ins.getD s.top.at_.toNat default).i.c == 0)))] (vA (ql 3 3 (HS.hc z (i := 10) rfl) rfl rfl) (vA (ic.eB ex s.top.regs ((s.top.code.blocks.getD s.top.blk.toNat default).ins.getD s.top.at_.toNat default).i.c dk (HS.hc z (i := 5) rfl) (OS.sv x2 z (i := 6) rfl) (by first | omega | exact hgr _ | exact aj wf.rows _ | (dsimp only; omega)) (by first | omega | exact hgr _ | exact aj wf.rows _ | (dsimp only; omega))) trivial)) rfl fun _ => ?_
          refine ao 0 1 (v := (bC s.top.regs ((s.top.code.blocks.getD s.top.blk.toNat default).ins.getD s.top.at_.toNat default).i.c == 0)) rfl rfl rfl rfl (fun ik => ?_) (fun ik => ?_)
          ·
           try simp only [BS] at ik
           refine aR rfl ?_
           refine fm (.pointer (some ⟨bt.b, 0, none⟩)) rfl rfl rfl ?_
           refine ai (v := (.pointer (some ⟨E, 1, none⟩))) (id := .v) (bd rfl rfl) rfl rfl (aI rfl) (aF _) ?_
           refine ai (v := (iI ((s.top.code.blocks.getD s.top.blk.toNat default).ins.getD s.top.at_.toNat default).i.a)) (id := .l E) (aT (i := 1) rfl rfl (HS.hc z.log0 (i := 10) rfl) rfl rfl) rfl rfl (bn rfl) (⟨.inl rfl, ⟨.inr trivial, trivial⟩⟩) ?_
           refine fm (.pointer (some ⟨bt.b, 0, none⟩)) rfl rfl rfl ?_
           refine ai (v := (.pointer (some ⟨E, 2, none⟩))) (id := .v) (bd rfl rfl) rfl rfl (aI rfl) (aF _) ?_
           refine ai (v := (iI ((s.top.code.blocks.getD s.top.blk.toNat default).ins.getD s.top.at_.toNat default).i.b)) (id := .l E) (aT (i := 2) rfl rfl (HS.hc z.log0 (i := 10) rfl) rfl rfl) rfl rfl (bn rfl) (⟨.inl rfl, ⟨.inr trivial, ⟨.inr trivial, ⟨.inr trivial, ⟨.inr trivial, trivial⟩⟩⟩⟩⟩) ?_
           refine a9 (W := []) (ax rfl rfl rfl) rfl rfl rfl (ic.iT ex s.top.regs ((s.top.code.blocks.getD s.top.blk.toNat default).ins.getD s.top.at_.toNat default).i.b _ (HS.hc z.log0 (i := 5) rfl) (OS.sv x2 z.log0 (i := 6) rfl) (by first | omega | exact hgr _ | exact aj wf.rows _ | (dsimp only; omega)) (by first | omega | exact hgr _ | exact aj wf.rows _ | (dsimp only; omega))) (⟨.inl rfl, ⟨.inl rfl, ⟨.inl rfl, ⟨.inr List.not_mem_nil, ⟨.inr trivial, ⟨.inr trivial, trivial⟩⟩⟩⟩⟩⟩) ?_
           rintro _ _ ⟨qG, rfl, rfl, rfl⟩
           refine ⟨fun b hb => absurd hb List.not_mem_nil, fun mA lc => ?_⟩
           have hn := HS.lg z.log0 z lc
           generalize ({ { dk with log := [] } with log := mA } : Heap) = o9 at hn ⊢
           refine a9 (W := ((([(bt.b, .cells [(iI s.top.code.params), (iI s.top.code.regs), (.slice ba s.top.code.blocks.length bk), (.slice ra s.top.regs.length rk), (.slice aa s.top.args.length ak), (iI s.top.blk), (iI (s.top.at_ + 1)), (iI s.top.to_)] none false)] : Fp) ++ pg).map Prod.fst)) (ax rfl rfl rfl) rfl rfl rfl (ii ex s.top.regs ((s.top.code.blocks.getD s.top.blk.toNat default).ins.getD s.top.at_.toNat default).i.a (bC s.top.regs ((s.top.code.blocks.getD s.top.blk.toNat default).ins.getD s.top.at_.toNat default).i.b) (HS.call2 hn.log0 (i := 5) (j := 6) (by decide) rfl rfl) x2 (by first | omega | exact hgr _ | exact aj wf.rows _ | (dsimp only; omega)) (by first | omega | exact hgr _ | exact aj wf.rows _ | (dsimp only; omega)) (by first | omega | exact hgr _ | exact dO (hgr _) | exact en | exact cx _)) (⟨.inl rfl, ⟨.inl rfl, ⟨.inl rfl, ⟨.inl rfl, ⟨.inl rfl, ⟨.inl rfl, ⟨.inl rfl, trivial⟩⟩⟩⟩⟩⟩⟩) ?_
           rintro _ nS ⟨na, nA, nq, mS, pT, co, b3, rfl, mg⟩
           refine ⟨HS.didW b3, fun mB ld => ?_⟩
           replace b3 := HS.back2 hn.log0 (i := 5) (j := 6) (by decide) rfl rfl rfl (fun _ hb => hb) b3
           replace b3 := HS.lg b3 hn ld
           generalize ({ nS with log := mB } : Heap) = pb at b3 ⊢
           have b3 : HS _ _ _ [ez, pc, pr, pp, pl, [(bt.b, .cells [(iI s.top.code.params), (iI s.top.code.regs), (.slice ba s.top.code.blocks.length bk), (.slice na nA nq), (.slice aa s.top.args.length ak), (iI s.top.blk), (iI (s.top.at_ + 1)), (iI s.top.to_)] none false)], mS, po, I, A, av] _ := b3
           replace U := U.mono co
           replace Z := Z.mono co
           replace T := T.mono co
           replace y3 := y3.mono co
           replace V := V.mono co
           replace y2 := SF.mono co y2
           replace y4 := FAM.mono (fun k => CR.mono co k) y4
           refine bZ ?_
           refine ay 1 rfl ?_
           exact aA ⟨.inl rfl, _, rfl, rfl, RunP.mk (bt := bt) (L := [I, A, av]) (by unfold bI; dsimp only [fu, fC, cb]; (repeat (first | rw [if_pos (by omega)] | rw [if_neg (by omega)] | rw [if_pos hlow] | rw [if_neg hlow] | (unfold cG; dsimp only [goT, az]) | (unfold f4; dsimp only [az]) | (unfold fY; dsimp only [ct, az]) | (unfold fQ; dsimp only [ct, az]) | (unfold cP; dsimp only [az]))); first | done | rfl | rw [hmap]) b3 (co) T y2 y3 y4 V y7 U mg Z⟩
          ·
           try simp only [BS] at ik
           exact aA ⟨.inl rfl, _, rfl, rfl, RunP.mk (bt := bt) (L := [I, A, av]) (by unfold bI; dsimp only [fu, fC, cb]; (repeat (first | rw [if_pos (by omega)] | rw [if_neg (by omega)] | rw [if_pos hlow] | rw [if_neg hlow] | (unfold cG; dsimp only [goT, az]) | (unfold f4; dsimp only [az]) | (unfold fY; dsimp only [ct, az]) | (unfold fQ; dsimp only [ct, az]) | (unfold cP; dsimp only [az]))); first | done | rfl | rw [hmap]) z fR T y2 y3 y4 V y7 U x2 Z⟩
         ·
          try simp only [BS] at ih
          refine wR 1 [] 66 67 [] [(66, (.bool (((s.top.code.blocks.getD s.top.blk.toNat default).ins.getD s.top.at_.toNat default).i.op == 12)))] trivial rfl fun _ => ?_
          refine ao 1 1 (v := (((s.top.code.blocks.getD s.top.blk.toNat default).ins.getD s.top.at_.toNat default).i.op == 12)) rfl rfl rfl rfl (fun iv => ?_) (fun iv => ?_)
          ·
           try simp only [BS] at iv
           refine wR 1 [(2, .o (iI ((s.top.code.blocks.getD s.top.blk.toNat default).ins.getD s.top.at_.toNat default).i.c)), (3, .o (iI (bC s.top.regs ((s.top.code.blocks.getD s.top.blk.toNat default).ins.getD s.top.at_.toNat default).i.c)))] 68 72 [] [(72, (.bool (bC s.top.regs ((s.top.code.blocks.getD s.top.blk.toNat default).ins.getD s.top.at_.toNat default).i.c != 0)))] (vA (ql 3 3 (HS.hc z (i := 10) rfl) rfl rfl) (vA (ic.eB ex s.top.regs ((s.top.code.blocks.getD s.top.blk.toNat default).ins.getD s.top.at_.toNat default).i.c dk (HS.hc z (i := 5) rfl) (OS.sv x2 z (i := 6) rfl) (by first | omega | exact hgr _ | exact aj wf.rows _ | (dsimp only; omega)) (by first | omega | exact hgr _ | exact aj wf.rows _ | (dsimp only; omega))) trivial)) rfl fun _ => ?_
           refine ao 0 1 (v := (bC s.top.regs ((s.top.code.blocks.getD s.top.blk.toNat default).ins.getD s.top.at_.toNat default).i.c != 0)) rfl rfl rfl rfl (fun i1 => ?_) (fun i1 => ?_)
           ·
            try simp only [BS] at i1
            refine aR rfl ?_
            refine fm (.pointer (some ⟨bt.b, 0, none⟩)) rfl rfl rfl ?_
            refine ai (v := (.pointer (some ⟨E, 1, none⟩))) (id := .v) (bd rfl rfl) rfl rfl (aI rfl) (aF _) ?_
            refine ai (v := (iI ((s.top.code.blocks.getD s.top.blk.toNat default).ins.getD s.top.at_.toNat default).i.a)) (id := .l E) (aT (i := 1) rfl rfl (HS.hc z.log0 (i := 10) rfl) rfl rfl) rfl rfl (bn rfl) (⟨.inl rfl, ⟨.inr trivial, trivial⟩⟩) ?_
            refine fm (.pointer (some ⟨bt.b, 0, none⟩)) rfl rfl rfl ?_
            refine ai (v := (.pointer (some ⟨E, 2, none⟩))) (id := .v) (bd rfl rfl) rfl rfl (aI rfl) (aF _) ?_
            refine ai (v := (iI ((s.top.code.blocks.getD s.top.blk.toNat default).ins.getD s.top.at_.toNat default).i.b)) (id := .l E) (aT (i := 2) rfl rfl (HS.hc z.log0 (i := 10) rfl) rfl rfl) rfl rfl (bn rfl) (⟨.inl rfl, ⟨.inr trivial, ⟨.inr trivial, ⟨.inr trivial, ⟨.inr trivial, trivial⟩⟩⟩⟩⟩) ?_
            refine a9 (W := []) (ax rfl rfl rfl) rfl rfl rfl (ic.iT ex s.top.regs ((s.top.code.blocks.getD s.top.blk.toNat default).ins.getD s.top.at_.toNat default).i.b _ (HS.hc z.log0 (i := 5) rfl) (OS.sv x2 z.log0 (i := 6) rfl) (by first | omega | exact hgr _ | exact aj wf.rows _ | (dsimp only; omega)) (by first | omega | exact hgr _ | exact aj wf.rows _ | (dsimp only; omega))) (⟨.inl rfl, ⟨.inl rfl, ⟨.inl rfl, ⟨.inr List.not_mem_nil, ⟨.inr trivial, ⟨.inr trivial, trivial⟩⟩⟩⟩⟩⟩) ?_
            rintro _ _ ⟨qH, rfl, rfl, rfl⟩
            refine ⟨fun b hb => absurd hb List.not_mem_nil, fun mC lf => ?_⟩
            have ho := HS.lg z.log0 z lf
            generalize ({ { dk with log := [] } with log := mC } : Heap) = pd at ho ⊢
            refine a9 (W := ((([(bt.b, .cells [(iI s.top.code.params), (iI s.top.code.regs), (.slice ba s.top.code.blocks.length bk), (.slice ra s.top.regs.length rk), (.slice aa s.top.args.length ak), (iI s.top.blk), (iI (s.top.at_ + 1)), (iI s.top.to_)] none false)] : Fp) ++ pg).map Prod.fst)) (ax rfl rfl rfl) rfl rfl rfl (ii ex s.top.regs ((s.top.code.blocks.getD s.top.blk.toNat default).ins.getD s.top.at_.toNat default).i.a (bC s.top.regs ((s.top.code.blocks.getD s.top.blk.toNat default).ins.getD s.top.at_.toNat default).i.b) (HS.call2 ho.log0 (i := 5) (j := 6) (by decide) rfl rfl) x2 (by first | omega | exact hgr _ | exact aj wf.rows _ | (dsimp only; omega)) (by first | omega | exact hgr _ | exact aj wf.rows _ | (dsimp only; omega)) (by first | omega | exact hgr _ | exact dO (hgr _) | exact en | exact cx _)) (⟨.inl rfl, ⟨.inl rfl, ⟨.inl rfl, ⟨.inl rfl, ⟨.inl rfl, ⟨.inl rfl, ⟨.inl rfl, trivial⟩⟩⟩⟩⟩⟩⟩) ?_
            rintro _ nT ⟨ne, nB, nr, mT, pU, c0, b4, rfl, mh⟩
            refine ⟨HS.didW b4, fun mD lh => ?_⟩
            replace b4 := HS.back2 ho.log0 (i := 5) (j := 6) (by decide) rfl rfl rfl (fun _ hb => hb) b4
            replace b4 := HS.lg b4 ho lh
            generalize ({ nT with log := mD } : Heap) = pe at b4 ⊢
            have b4 : HS _ _ _ [ez, pc, pr, pp, pl, [(bt.b, .cells [(iI s.top.code.params), (iI s.top.code.regs), (.slice ba s.top.code.blocks.length bk), (.slice ne nB nr), (.slice aa s.top.args.length ak), (iI s.top.blk), (iI (s.top.at_ + 1)), (iI s.top.to_)] none false)], mT, po, I, A, av] _ := b4
            replace U := U.mono c0
            replace Z := Z.mono c0
            replace T := T.mono c0
            replace y3 := y3.mono c0
            replace V := V.mono c0
            replace y2 := SF.mono c0 y2
            replace y4 := FAM.mono (fun k => CR.mono c0 k) y4
            refine bZ ?_
            refine ay 1 rfl ?_
            exact aA ⟨.inl rfl, _, rfl, rfl, RunP.mk (bt := bt) (L := [I, A, av]) (by unfold bI; dsimp only [fu, fC, cb]; (repeat (first | rw [if_pos (by omega)] | rw [if_neg (by omega)] | rw [if_pos hlow] | rw [if_neg hlow] | (unfold cG; dsimp only [goT, az]) | (unfold f4; dsimp only [az]) | (unfold fY; dsimp only [ct, az]) | (unfold fQ; dsimp only [ct, az]) | (unfold cP; dsimp only [az]))); first | done | rfl | rw [hmap]) b4 (c0) T y2 y3 y4 V y7 U mh Z⟩
           ·
            try simp only [BS] at i1
            exact aA ⟨.inl rfl, _, rfl, rfl, RunP.mk (bt := bt) (L := [I, A, av]) (by unfold bI; dsimp only [fu, fC, cb]; (repeat (first | rw [if_pos (by omega)] | rw [if_neg (by omega)] | rw [if_pos hlow] | rw [if_neg hlow] | (unfold cG; dsimp only [goT, az]) | (unfold f4; dsimp only [az]) | (unfold fY; dsimp only [ct, az]) | (unfold fQ; dsimp only [ct, az]) | (unfold cP; dsimp only [az]))); first | done | rfl | rw [hmap]) z fR T y2 y3 y4 V y7 U x2 Z⟩
          ·
           try simp only [BS] at iv
           refine wR 1 [] 81 82 [] [(81, (.bool (((s.top.code.blocks.getD s.top.blk.toNat default).ins.getD s.top.at_.toNat default).i.op == 13)))] trivial rfl fun _ => ?_
           refine ao 0 1 (v := (((s.top.code.blocks.getD s.top.blk.toNat default).ins.getD s.top.at_.toNat default).i.op == 13)) rfl rfl rfl rfl (fun i2 => ?_) (fun i2 => ?_)
           ·
            try simp only [BS] at i2
            refine ah ?_
            refine wRo 5 0 [(2, .o (iI ((s.top.code.blocks.getD s.top.blk.toNat default).ins.getD s.top.at_.toNat default).i.a)), (4, .o (iI ((s.top.code.blocks.getD s.top.blk.toNat default).ins.getD s.top.at_.toNat default).i.n))] 83 87 [] [(83, (.pointer (some ⟨bt.b, 0, none⟩))), (85, (iI ((s.top.code.blocks.getD s.top.blk.toNat default).ins.getD s.top.at_.toNat default).i.a)), (87, (iI ((s.top.code.blocks.getD s.top.blk.toNat default).ins.getD s.top.at_.toNat default).i.n))] (vA (ql 3 1 (HS.hc z (i := 10) rfl) rfl rfl) (vA (ql 2 4 (HS.hc z (i := 10) rfl) rfl rfl) trivial)) rfl fun _ => ?_
            refine aJ (ax rfl rfl rfl) rfl rfl (ii ex s.top.regs ((s.top.code.blocks.getD s.top.blk.toNat default).ins.getD s.top.at_.toNat default).i.a ((s.top.code.blocks.getD s.top.blk.toNat default).ins.getD s.top.at_.toNat default).i.n (HS.call2 z (i := 5) (j := 6) (by decide) rfl rfl) x2 (by first | omega | exact hgr _ | exact aj wf.rows _ | (dsimp only; omega)) (by first | omega | exact hgr _ | exact aj wf.rows _ | (dsimp only; omega)) (by first | omega | exact hgr _ | exact dO (hgr _) | exact en | exact cx _)) ?_
            rintro _ p7 ⟨ng, nC, ns, mU, pV, c3, g7, rfl, mi⟩
            replace g7 := HS.back2 z (i := 5) (j := 6) (by decide) rfl rfl rfl (fun _ hb => hb) g7
            have g7 : HS _ _ _ [ez, pc, pr, pp, pl, [(bt.b, .cells [(iI s.top.code.params), (iI s.top.code.regs), (.slice ba s.top.code.blocks.length bk), (.slice ng nC ns), (.slice aa s.top.args.length ak), (iI s.top.blk), (iI (s.top.at_ + 1)), (iI s.top.to_)] none false)], mU, po, I, A, av] _ := g7
            replace U := U.mono c3
            replace Z := Z.mono c3
            replace T := T.mono c3
            replace y3 := y3.mono c3
            replace V := V.mono c3
            replace y2 := SF.mono c3 y2
            replace y4 := FAM.mono (fun k => CR.mono c3 k) y4
            refine au 1 rfl ?_
            exact aA ⟨.inl rfl, _, rfl, rfl, RunP.mk (bt := bt) (L := [I, A, av]) (by unfold bI; dsimp only [fu, fC, cb]; (repeat (first | rw [if_pos (by omega)] | rw [if_neg (by omega)] | rw [if_pos hlow] | rw [if_neg hlow] | (unfold cG; dsimp only [goT, az]) | (unfold f4; dsimp only [az]) | (unfold fY; dsimp only [ct, az]) | (unfold fQ; dsimp only [ct, az]) | (unfold cP; dsimp only [az]))); first | done | rfl | rw [hmap]) g7 (c3) T y2 y3 y4 V y7 U mi Z⟩
           ·
            try simp only [BS] at i2
            refine wR 1 [] 89 90 [] [(89, (.bool (((s.top.code.blocks.getD s.top.blk.toNat default).ins.getD s.top.at_.toNat default).i.op == 38)))] trivial rfl fun _ => ?_
            refine ao 0 1 (v := (((s.top.code.blocks.getD s.top.blk.toNat default).ins.getD s.top.at_.toNat default).i.op == 38)) rfl rfl rfl rfl (fun i3 => ?_) (fun i3 => ?_)
            ·
             try simp only [BS] at i3
             refine aR rfl ?_
             refine fm (.pointer (some ⟨bt.b, 0, none⟩)) rfl rfl rfl ?_
             refine ai (v := (.pointer (some ⟨E, 1, none⟩))) (id := .v) (bd rfl rfl) rfl rfl (aI rfl) (aF _) ?_
             refine ai (v := (iI ((s.top.code.blocks.getD s.top.blk.toNat default).ins.getD s.top.at_.toNat default).i.a)) (id := .l E) (aT (i := 1) rfl rfl (HS.hc z.log0 (i := 10) rfl) rfl rfl) rfl rfl (bn rfl) (⟨.inl rfl, ⟨.inr trivial, trivial⟩⟩) ?_
             refine fm (.pointer (some ⟨bt.b, 0, none⟩)) rfl rfl rfl ?_
             refine ai (v := (.pointer (some ⟨bt.b, 0, none⟩))) (id := .v) (bN rfl) rfl rfl (aI rfl) (aF _) ?_
             refine ai (v := (.pointer (some ⟨bt.b, 4, none⟩))) (id := .v) (bd rfl rfl) rfl rfl (aI rfl) (aF _) ?_
             refine ai (v := (.slice aa s.top.args.length ak)) (id := .l bt.b) (aT (i := 4) rfl rfl (HS.hc z.log0 (i := 5) rfl) rfl rfl) rfl rfl (bn rfl) (⟨.inl rfl, ⟨.inl rfl, ⟨.inl rfl, ⟨.inr trivial, ⟨.inr trivial, ⟨.inr trivial, trivial⟩⟩⟩⟩⟩⟩) ?_
             refine ai (v := (.pointer (some ⟨E, 4, none⟩))) (id := .v) (bd rfl rfl) rfl rfl (aI rfl) (aF _) ?_
             refine ai (v := (iI ((s.top.code.blocks.getD s.top.blk.toNat default).ins.getD s.top.at_.toNat default).i.n)) (id := .l E) (aT (i := 4) rfl rfl (HS.hc z.log0 (i := 10) rfl) rfl rfl) rfl rfl (bn rfl) (⟨.inl rfl, ⟨.inr trivial, ⟨.inr trivial, ⟨.inr trivial, ⟨.inr trivial, ⟨.inr trivial, ⟨.inr trivial, ⟨.inr trivial, trivial⟩⟩⟩⟩⟩⟩⟩⟩) ?_
             refine ai (v := (.pointer (some ⟨sB (.slice aa s.top.args.length ak), sO (.slice aa s.top.args.length ak) + ((s.top.code.blocks.getD s.top.blk.toNat default).ins.getD s.top.at_.toNat default).i.n.toNat * Rp.sz Int, none⟩))) (id := .v) (eI (α := Int) (j := ((s.top.code.blocks.getD s.top.blk.toNat default).ins.getD s.top.at_.toNat default).i.n) rfl rfl rfl rfl (SR.sv Z z.log0) (by first | omega | exact hgr _ | exact aj wf.rows _ | (dsimp only; omega)) (by first | omega | exact hgr _ | exact aj wf.rows _ | (dsimp only; omega))) rfl rfl (aI rfl) (aF _) ?_
             obtain ⟨py, mj, lY⟩ := Sv.at (SR.sv Z z.log0) (dM (x := (0 : Int)) (show ((s.top.code.blocks.getD s.top.blk.toNat default).ins.getD s.top.at_.toNat default).i.n.toNat < s.top.args.length from by first | omega | exact hgr _ | exact aj wf.rows _ | (dsimp only; omega)))
             obtain ⟨rfl, oT⟩ := mj
             refine ai (v := (iI (s.top.args.getD ((s.top.code.blocks.getD s.top.blk.toNat default).ins.getD s.top.at_.toNat default).i.n.toNat 0))) (id := .l (sB (.slice aa s.top.args.length ak))) (aT (i := 0) rfl rfl lY rfl rfl) rfl rfl (bn rfl) (⟨.inl rfl, ⟨.inl rfl, ⟨.inl rfl, ⟨.inl rfl, ⟨.inl rfl, ⟨.inl rfl, ⟨.inl rfl, ⟨.inr trivial, ⟨.inr trivial, ⟨.inr trivial, trivial⟩⟩⟩⟩⟩⟩⟩⟩⟩⟩) ?_
             refine a9 (W := ((([(bt.b, .cells [(iI s.top.code.params), (iI s.top.code.regs), (.slice ba s.top.code.blocks.length bk), (.slice ra s.top.regs.length rk), (.slice aa s.top.args.length ak), (iI s.top.blk), (iI (s.top.at_ + 1)), (iI s.top.to_)] none false)] : Fp) ++ pg).map Prod.fst)) (ax rfl rfl rfl) rfl rfl rfl (ii ex s.top.regs ((s.top.code.blocks.getD s.top.blk.toNat default).ins.getD s.top.at_.toNat default).i.a (s.top.args.getD ((s.top.code.blocks.getD s.top.blk.toNat default).ins.getD s.top.at_.toNat default).i.n.toNat 0) (HS.call2 z.log0 (i := 5) (j := 6) (by decide) rfl rfl) x2 (by first | omega | exact hgr _ | exact aj wf.rows _ | (dsimp only; omega)) (by first | omega | exact hgr _ | exact aj wf.rows _ | (dsimp only; omega)) (by first | omega | exact hgr _ | exact dO (hgr _) | exact en | exact cx _)) (⟨.inl rfl, ⟨.inl rfl, ⟨.inl rfl, ⟨.inl rfl, ⟨.inl rfl, ⟨.inl rfl, ⟨.inl rfl, ⟨.inl rfl, ⟨.inl rfl, ⟨.inl rfl, ⟨.inl rfl, trivial⟩⟩⟩⟩⟩⟩⟩⟩⟩⟩⟩) ?_
             rintro _ nU ⟨nh, nD, nt, mV, pW, c4, b6, rfl, ml⟩
             refine ⟨HS.didW b6, fun mE li => ?_⟩
             replace b6 := HS.back2 z.log0 (i := 5) (j := 6) (by decide) rfl rfl rfl (fun _ hb => hb) b6
             replace b6 := HS.lg b6 z li
             generalize ({ nU with log := mE } : Heap) = pf at b6 ⊢
             have b6 : HS _ _ _ [ez, pc, pr, pp, pl, [(bt.b, .cells [(iI s.top.code.params), (iI s.top.code.regs), (.slice ba s.top.code.blocks.length bk), (.slice nh nD nt), (.slice aa s.top.args.length ak), (iI s.top.blk), (iI (s.top.at_ + 1)), (iI s.top.to_)] none false)], mV, po, I, A, av] _ := b6
             replace U := U.mono c4
             replace Z := Z.mono c4
             replace T := T.mono c4
             replace y3 := y3.mono c4
             replace V := V.mono c4
             replace y2 := SF.mono c4 y2
             replace y4 := FAM.mono (fun k => CR.mono c4 k) y4
             refine bZ ?_
             refine ay 1 rfl ?_
             exact aA ⟨.inl rfl, _, rfl, rfl, RunP.mk (bt := bt) (L := [I, A, av]) (by unfold bI; dsimp only [fu, fC, cb]; (repeat (first | rw [if_pos (by omega)] | rw [if_neg (by omega)] | rw [if_pos hlow] | rw [if_neg hlow] | (unfold cG; dsimp only [goT, az]) | (unfold f4; dsimp only [az]) | (unfold fY; dsimp only [ct, az]) | (unfold fQ; dsimp only [ct, az]) | (unfold cP; dsimp only [az]))); first | done | rfl | rw [hmap]) b6 (c4) T y2 y3 y4 V y7 U ml Z⟩
            ·
             try simp only [BS] at i3
             refine wR 1 [] 103 104 [] [(103, (.bool (((s.top.code.blocks.getD s.top.blk.toNat default).ins.getD s.top.at_.toNat default).i.op == 15)))] trivial rfl fun _ => ?_
             refine ao 0 1 (v := (((s.top.code.blocks.getD s.top.blk.toNat default).ins.getD s.top.at_.toNat default).i.op == 15)) rfl rfl rfl rfl (fun ja => ?_) (fun ja => ?_)
             ·
              try simp only [BS] at ja
              refine aR rfl ?_
              refine fm (.pointer (some ⟨bt.b, 0, none⟩)) rfl rfl rfl ?_
              refine ai (v := (.pointer (some ⟨E, 1, none⟩))) (id := .v) (bd rfl rfl) rfl rfl (aI rfl) (aF _) ?_
              refine ai (v := (iI ((s.top.code.blocks.getD s.top.blk.toNat default).ins.getD s.top.at_.toNat default).i.a)) (id := .l E) (aT (i := 1) rfl rfl (HS.hc z.log0 (i := 10) rfl) rfl rfl) rfl rfl (bn rfl) (⟨.inl rfl, ⟨.inr trivial, trivial⟩⟩) ?_
              refine fm (.pointer (some ⟨bt.b, 0, none⟩)) rfl rfl rfl ?_
              refine ai (v := (.pointer (some ⟨E, 1, none⟩))) (id := .v) (bd rfl rfl) rfl rfl (aI rfl) (aF _) ?_
              refine ai (v := (iI ((s.top.code.blocks.getD s.top.blk.toNat default).ins.getD s.top.at_.toNat default).i.a)) (id := .l E) (aT (i := 1) rfl rfl (HS.hc z.log0 (i := 10) rfl) rfl rfl) rfl rfl (bn rfl) (⟨.inl rfl, ⟨.inr trivial, ⟨.inr trivial, ⟨.inr trivial, ⟨.inr trivial, trivial⟩⟩⟩⟩⟩) ?_
              refine a9 (W := []) (ax rfl rfl rfl) rfl rfl rfl (ic.iT ex s.top.regs ((s.top.code.blocks.getD s.top.blk.toNat default).ins.getD s.top.at_.toNat default).i.a _ (HS.hc z.log0 (i := 5) rfl) (OS.sv x2 z.log0 (i := 6) rfl) (by first | omega | exact hgr _ | exact aj wf.rows _ | (dsimp only; omega)) (by first | omega | exact hgr _ | exact aj wf.rows _ | (dsimp only; omega))) (⟨.inl rfl, ⟨.inl rfl, ⟨.inl rfl, ⟨.inr List.not_mem_nil, ⟨.inr trivial, ⟨.inr trivial, trivial⟩⟩⟩⟩⟩⟩) ?_
              rintro _ _ ⟨qI, rfl, rfl, rfl⟩
              refine ⟨fun b hb => absurd hb List.not_mem_nil, fun mF lj => ?_⟩
              have hV := HS.lg z.log0 z lj
              generalize ({ { dk with log := [] } with log := mF } : Heap) = lP at hV ⊢
              refine a9 (W := []) (ax rfl rfl rfl) rfl rfl rfl (iw.un_c ex (20) (bC s.top.regs ((s.top.code.blocks.getD s.top.blk.toNat default).ins.getD s.top.at_.toNat default).i.a) _) (⟨.inl rfl, ⟨.inl rfl, ⟨.inl rfl, ⟨.inl rfl, ⟨.inr List.not_mem_nil, ⟨.inr trivial, ⟨.inr trivial, trivial⟩⟩⟩⟩⟩⟩⟩) ?_
              rintro _ _ ⟨qJ, rfl, rfl, rfl⟩
              refine ⟨fun b hb => absurd hb List.not_mem_nil, fun mG ll => ?_⟩
              have hr := HS.lg hV.log0 hV ll
              generalize ({ { lP with log := [] } with log := mG } : Heap) = ph at hr ⊢
              refine a9 (W := ((([(bt.b, .cells [(iI s.top.code.params), (iI s.top.code.regs), (.slice ba s.top.code.blocks.length bk), (.slice ra s.top.regs.length rk), (.slice aa s.top.args.length ak), (iI s.top.blk), (iI (s.top.at_ + 1)), (iI s.top.to_)] none false)] : Fp) ++ pg).map Prod.fst)) (ax rfl rfl rfl) rfl rfl rfl (ii ex s.top.regs ((s.top.code.blocks.getD s.top.blk.toNat default).ins.getD s.top.at_.toNat default).i.a (unV (20 : Int) (bC s.top.regs ((s.top.code.blocks.getD s.top.blk.toNat default).ins.getD s.top.at_.toNat default).i.a)) (HS.call2 hr.log0 (i := 5) (j := 6) (by decide) rfl rfl) x2 (by first | omega | exact hgr _ | exact aj wf.rows _ | (dsimp only; omega)) (by first | omega | exact hgr _ | exact aj wf.rows _ | (dsimp only; omega)) (by first | omega | exact hgr _ | exact dO (hgr _) | exact en | exact cx _)) (⟨.inl rfl, ⟨.inl rfl, ⟨.inl rfl, ⟨.inl rfl, ⟨.inl rfl, ⟨.inl rfl, ⟨.inl rfl, ⟨.inl rfl, trivial⟩⟩⟩⟩⟩⟩⟩⟩) ?_
              rintro _ nV ⟨ni, nE, nu, mW, pX, c5, b7, rfl, mn⟩
              refine ⟨HS.didW b7, fun mH lm => ?_⟩
              replace b7 := HS.back2 hr.log0 (i := 5) (j := 6) (by decide) rfl rfl rfl (fun _ hb => hb) b7
              replace b7 := HS.lg b7 hr lm
              generalize ({ nV with log := mH } : Heap) = pi at b7 ⊢
              have b7 : HS _ _ _ [ez, pc, pr, pp, pl, [(bt.b, .cells [(iI s.top.code.params), (iI s.top.code.regs), (.slice ba s.top.code.blocks.length bk), (.slice ni nE nu), (.slice aa s.top.args.length ak), (iI s.top.blk), (iI (s.top.at_ + 1)), (iI s.top.to_)] none false)], mW, po, I, A, av] _ := b7
              replace U := U.mono c5
              replace Z := Z.mono c5
              replace T := T.mono c5
              replace y3 := y3.mono c5
              replace V := V.mono c5
              replace y2 := SF.mono c5 y2
              replace y4 := FAM.mono (fun k => CR.mono c5 k) y4
              refine bZ ?_
              refine ay 1 rfl ?_
              exact aA ⟨.inl rfl, _, rfl, rfl, RunP.mk (bt := bt) (L := [I, A, av]) (by unfold bI; dsimp only [fu, fC, cb]; (repeat (first | rw [if_pos (by omega)] | rw [if_neg (by omega)] | rw [if_pos hlow] | rw [if_neg hlow] | (unfold cG; dsimp only [goT, az]) | (unfold f4; dsimp only [az]) | (unfold fY; dsimp only [ct, az]) | (unfold fQ; dsimp only [ct, az]) | (unfold cP; dsimp only [az]))); first | done | rfl | rw [hmap]) b7 (c5) T y2 y3 y4 V y7 U mn Z⟩
             ·
              try simp only [BS] at ja
              refine wR 1 [] 114 115 [] [(114, (.bool (((s.top.code.blocks.getD s.top.blk.toNat default).ins.getD s.top.at_.toNat default).i.op == 16)))] trivial rfl fun _ => ?_
              refine ao 0 1 (v := (((s.top.code.blocks.getD s.top.blk.toNat default).ins.getD s.top.at_.toNat default).i.op == 16)) rfl rfl rfl rfl (fun jb => ?_) (fun jb => ?_)
              ·
               try simp only [BS] at jb
               refine aR rfl ?_
               refine fm (.pointer (some ⟨bt.b, 0, none⟩)) rfl rfl rfl ?_
               refine ai (v := (.pointer (some ⟨E, 1, none⟩))) (id := .v) (bd rfl rfl) rfl rfl (aI rfl) (aF _) ?_
               refine ai (v := (iI ((s.top.code.blocks.getD s.top.blk.toNat default).ins.getD s.top.at_.toNat default).i.a)) (id := .l E) (aT (i := 1) rfl rfl (HS.hc z.log0 (i := 10) rfl) rfl rfl) rfl rfl (bn rfl) (⟨.inl rfl, ⟨.inr trivial, trivial⟩⟩) ?_
               refine fm (.pointer (some ⟨bt.b, 0, none⟩)) rfl rfl rfl ?_
               refine ai (v := (.pointer (some ⟨E, 1, none⟩))) (id := .v) (bd rfl rfl) rfl rfl (aI rfl) (aF _) ?_
               refine ai (v := (iI ((s.top.code.blocks.getD s.top.blk.toNat default).ins.getD s.top.at_.toNat default).i.a)) (id := .l E) (aT (i := 1) rfl rfl (HS.hc z.log0 (i := 10) rfl) rfl rfl) rfl rfl (bn rfl) (⟨.inl rfl, ⟨.inr trivial, ⟨.inr trivial, ⟨.inr trivial, ⟨.inr trivial, trivial⟩⟩⟩⟩⟩) ?_
               refine a9 (W := []) (ax rfl rfl rfl) rfl rfl rfl (ic.iT ex s.top.regs ((s.top.code.blocks.getD s.top.blk.toNat default).ins.getD s.top.at_.toNat default).i.a _ (HS.hc z.log0 (i := 5) rfl) (OS.sv x2 z.log0 (i := 6) rfl) (by first | omega | exact hgr _ | exact aj wf.rows _ | (dsimp only; omega)) (by first | omega | exact hgr _ | exact aj wf.rows _ | (dsimp only; omega))) (⟨.inl rfl, ⟨.inl rfl, ⟨.inl rfl, ⟨.inr List.not_mem_nil, ⟨.inr trivial, ⟨.inr trivial, trivial⟩⟩⟩⟩⟩⟩) ?_
               rintro _ _ ⟨qK, rfl, rfl, rfl⟩
               refine ⟨fun b hb => absurd hb List.not_mem_nil, fun mI ln => ?_⟩
               have hW := HS.lg z.log0 z ln
               generalize ({ { dk with log := [] } with log := mI } : Heap) = lQ at hW ⊢
               refine a9 (W := []) (ax rfl rfl rfl) rfl rfl rfl (iw.un_c ex (21) (bC s.top.regs ((s.top.code.blocks.getD s.top.blk.toNat default).ins.getD s.top.at_.toNat default).i.a) _) (⟨.inl rfl, ⟨.inl rfl, ⟨.inl rfl, ⟨.inl rfl, ⟨.inr List.not_mem_nil, ⟨.inr trivial, ⟨.inr trivial, trivial⟩⟩⟩⟩⟩⟩⟩) ?_
               rintro _ _ ⟨qL, rfl, rfl, rfl⟩
               refine ⟨fun b hb => absurd hb List.not_mem_nil, fun mJ lp => ?_⟩
               have ht := HS.lg hW.log0 hW lp
               generalize ({ { lQ with log := [] } with log := mJ } : Heap) = pj at ht ⊢
               refine a9 (W := ((([(bt.b, .cells [(iI s.top.code.params), (iI s.top.code.regs), (.slice ba s.top.code.blocks.length bk), (.slice ra s.top.regs.length rk), (.slice aa s.top.args.length ak), (iI s.top.blk), (iI (s.top.at_ + 1)), (iI s.top.to_)] none false)] : Fp) ++ pg).map Prod.fst)) (ax rfl rfl rfl) rfl rfl rfl (ii ex s.top.regs ((s.top.code.blocks.getD s.top.blk.toNat default).ins.getD s.top.at_.toNat default).i.a (unV (21 : Int) (bC s.top.regs ((s.top.code.blocks.getD s.top.blk.toNat default).ins.getD s.top.at_.toNat default).i.a)) (HS.call2 ht.log0 (i := 5) (j := 6) (by decide) rfl rfl) x2 (by first | omega | exact hgr _ | exact aj wf.rows _ | (dsimp only; omega)) (by first | omega | exact hgr _ | exact aj wf.rows _ | (dsimp only; omega)) (by first | omega | exact hgr _ | exact dO (hgr _) | exact en | exact cx _)) (⟨.inl rfl, ⟨.inl rfl, ⟨.inl rfl, ⟨.inl rfl, ⟨.inl rfl, ⟨.inl rfl, ⟨.inl rfl, ⟨.inl rfl, trivial⟩⟩⟩⟩⟩⟩⟩⟩) ?_
               rintro _ nW ⟨nj, nF, nv, mX, pY, c6, cd, rfl, mo⟩
               refine ⟨HS.didW cd, fun mK lq => ?_⟩
               replace cd := HS.back2 ht.log0 (i := 5) (j := 6) (by decide) rfl rfl rfl (fun _ hb => hb) cd
               replace cd := HS.lg cd ht lq
               generalize ({ nW with log := mK } : Heap) = pm at cd ⊢
               have cd : HS _ _ _ [ez, pc, pr, pp, pl, [(bt.b, .cells [(iI s.top.code.params), (iI s.top.code.regs), (.slice ba s.top.code.blocks.length bk), (.slice nj nF nv), (.slice aa s.top.args.length ak), (iI s.top.blk), (iI (s.top.at_ + 1)), (iI s.top.to_)] none false)], mX, po, I, A, av] _ := cd
               replace U := U.mono c6
               replace Z := Z.mono c6
               replace T := T.mono c6
               replace y3 := y3.mono c6
               replace V := V.mono c6
               replace y2 := SF.mono c6 y2
               replace y4 := FAM.mono (fun k => CR.mono c6 k) y4
               refine bZ ?_
               refine ay 1 rfl ?_
               exact aA ⟨.inl rfl, _, rfl, rfl, RunP.mk (bt := bt) (L := [I, A, av]) (by unfold bI; dsimp only [fu, fC, cb]; (repeat (first | rw [if_pos (by omega)] | rw [if_neg (by omega)] | rw [if_pos hlow] | rw [if_neg hlow] | (unfold cG; dsimp only [goT, az]) | (unfold f4; dsimp only [az]) | (unfold fY; dsimp only [ct, az]) | (unfold fQ; dsimp only [ct, az]) | (unfold cP; dsimp only [az]))); first | done | rfl | rw [hmap]) cd (c6) T y2 y3 y4 V y7 U mo Z⟩
              ·
               try simp only [BS] at jb
               refine wR 1 [] 125 126 [] [(125, (.bool (((s.top.code.blocks.getD s.top.blk.toNat default).ins.getD s.top.at_.toNat default).i.op == 33)))] trivial rfl fun _ => ?_
               refine ao 0 1 (v := (((s.top.code.blocks.getD s.top.blk.toNat default).ins.getD s.top.at_.toNat default).i.op == 33)) rfl rfl rfl rfl (fun jc => ?_) (fun jc => ?_)
               ·
                try simp only [BS] at jc
                refine aR rfl ?_
                refine fm (.pointer (some ⟨bt.b, 0, none⟩)) rfl rfl rfl ?_
                refine ai (v := (.pointer (some ⟨E, 1, none⟩))) (id := .v) (bd rfl rfl) rfl rfl (aI rfl) (aF _) ?_
                refine ai (v := (iI ((s.top.code.blocks.getD s.top.blk.toNat default).ins.getD s.top.at_.toNat default).i.a)) (id := .l E) (aT (i := 1) rfl rfl (HS.hc z.log0 (i := 10) rfl) rfl rfl) rfl rfl (bn rfl) (⟨.inl rfl, ⟨.inr trivial, trivial⟩⟩) ?_
                refine fm (.pointer (some ⟨bt.b, 0, none⟩)) rfl rfl rfl ?_
                refine ai (v := (.pointer (some ⟨E, 1, none⟩))) (id := .v) (bd rfl rfl) rfl rfl (aI rfl) (aF _) ?_
                refine ai (v := (iI ((s.top.code.blocks.getD s.top.blk.toNat default).ins.getD s.top.at_.toNat default).i.a)) (id := .l E) (aT (i := 1) rfl rfl (HS.hc z.log0 (i := 10) rfl) rfl rfl) rfl rfl (bn rfl) (⟨.inl rfl, ⟨.inr trivial, ⟨.inr trivial, ⟨.inr trivial, ⟨.inr trivial, trivial⟩⟩⟩⟩⟩) ?_
                refine a9 (W := []) (ax rfl rfl rfl) rfl rfl rfl (ic.iT ex s.top.regs ((s.top.code.blocks.getD s.top.blk.toNat default).ins.getD s.top.at_.toNat default).i.a _ (HS.hc z.log0 (i := 5) rfl) (OS.sv x2 z.log0 (i := 6) rfl) (by first | omega | exact hgr _ | exact aj wf.rows _ | (dsimp only; omega)) (by first | omega | exact hgr _ | exact aj wf.rows _ | (dsimp only; omega))) (⟨.inl rfl, ⟨.inl rfl, ⟨.inl rfl, ⟨.inr List.not_mem_nil, ⟨.inr trivial, ⟨.inr trivial, trivial⟩⟩⟩⟩⟩⟩) ?_
                rintro _ _ ⟨qM, rfl, rfl, rfl⟩
                refine ⟨fun b hb => absurd hb List.not_mem_nil, fun mL lr => ?_⟩
                have g9 := HS.lg z.log0 z lr
                generalize ({ { dk with log := [] } with log := mL } : Heap) = pq at g9 ⊢
                refine ai (v := (.pointer (some ⟨E, 4, none⟩))) (id := .v) (bd rfl rfl) rfl rfl (aI rfl) (aF _) ?_
                refine ai (v := (iI ((s.top.code.blocks.getD s.top.blk.toNat default).ins.getD s.top.at_.toNat default).i.n)) (id := .l E) (aT (i := 4) rfl rfl (HS.hc g9.log0 (i := 10) rfl) rfl rfl) rfl rfl (bn rfl) (⟨.inl rfl, ⟨.inr List.not_mem_nil, ⟨.inr trivial, ⟨.inr trivial, ⟨.inr trivial, ⟨.inr trivial, ⟨.inr trivial, ⟨.inr trivial, trivial⟩⟩⟩⟩⟩⟩⟩⟩) ?_
                refine ai (v := (iI (IntKind.i64.wrap ((bC s.top.regs ((s.top.code.blocks.getD s.top.blk.toNat default).ins.getD s.top.at_.toNat default).i.a) + ((s.top.code.blocks.getD s.top.blk.toNat default).ins.getD s.top.at_.toNat default).i.n)))) (id := .v) (ap_add rfl rfl rfl) rfl rfl (aI rfl) (aF _) ?_
                refine a9 (W := ((([(bt.b, .cells [(iI s.top.code.params), (iI s.top.code.regs), (.slice ba s.top.code.blocks.length bk), (.slice ra s.top.regs.length rk), (.slice aa s.top.args.length ak), (iI s.top.blk), (iI (s.top.at_ + 1)), (iI s.top.to_)] none false)] : Fp) ++ pg).map Prod.fst)) (ax rfl rfl rfl) rfl rfl rfl (ii ex s.top.regs ((s.top.code.blocks.getD s.top.blk.toNat default).ins.getD s.top.at_.toNat default).i.a (IntKind.i64.wrap ((bC s.top.regs ((s.top.code.blocks.getD s.top.blk.toNat default).ins.getD s.top.at_.toNat default).i.a) + ((s.top.code.blocks.getD s.top.blk.toNat default).ins.getD s.top.at_.toNat default).i.n)) (HS.call2 g9.log0 (i := 5) (j := 6) (by decide) rfl rfl) x2 (by first | omega | exact hgr _ | exact aj wf.rows _ | (dsimp only; omega)) (by first | omega | exact hgr _ | exact aj wf.rows _ | (dsimp only; omega)) (by first | omega | exact hgr _ | exact dO (hgr _) | exact en | exact cx _)) (⟨.inl rfl, ⟨.inl rfl, ⟨.inl rfl, ⟨.inl rfl, ⟨.inl rfl, ⟨.inl rfl, ⟨.inl rfl, ⟨.inl rfl, ⟨.inl rfl, ⟨.inl rfl, trivial⟩⟩⟩⟩⟩⟩⟩⟩⟩⟩) ?_
                rintro _ nX ⟨nk, nG, nw, mY, pZ, c7, ch, rfl, mp⟩
                refine ⟨HS.didW ch, fun mM lu => ?_⟩
                replace ch := HS.back2 g9.log0 (i := 5) (j := 6) (by decide) rfl rfl rfl (fun _ hb => hb) ch
                replace ch := HS.lg ch g9 lu
                generalize ({ nX with log := mM } : Heap) = pt at ch ⊢
                have ch : HS _ _ _ [ez, pc, pr, pp, pl, [(bt.b, .cells [(iI s.top.code.params), (iI s.top.code.regs), (.slice ba s.top.code.blocks.length bk), (.slice nk nG nw), (.slice aa s.top.args.length ak), (iI s.top.blk), (iI (s.top.at_ + 1)), (iI s.top.to_)] none false)], mY, po, I, A, av] _ := ch
                replace U := U.mono c7
                replace Z := Z.mono c7
                replace T := T.mono c7
                replace y3 := y3.mono c7
                replace V := V.mono c7
                replace y2 := SF.mono c7 y2
                replace y4 := FAM.mono (fun k => CR.mono c7 k) y4
                refine bZ ?_
                refine ay 1 rfl ?_
                exact aA ⟨.inl rfl, _, rfl, rfl, RunP.mk (bt := bt) (L := [I, A, av]) (by unfold bI; dsimp only [fu, fC, cb]; (repeat (first | rw [if_pos (by omega)] | rw [if_neg (by omega)] | rw [if_pos hlow] | rw [if_neg hlow] | (unfold cG; dsimp only [goT, az]) | (unfold f4; dsimp only [az]) | (unfold fY; dsimp only [ct, az]) | (unfold fQ; dsimp only [ct, az]) | (unfold cP; dsimp only [az]))); first | done | rfl | rw [hmap]) ch (c7) T y2 y3 y4 V y7 U mp Z⟩
               ·
                try simp only [BS] at jc
                refine wR 3 [(2, .o (iI ((s.top.code.blocks.getD s.top.blk.toNat default).ins.getD s.top.at_.toNat default).i.b)), (3, .o (iI (bC s.top.regs ((s.top.code.blocks.getD s.top.blk.toNat default).ins.getD s.top.at_.toNat default).i.b)))] 9 12 [6] [(6, (iI (bC s.top.regs ((s.top.code.blocks.getD s.top.blk.toNat default).ins.getD s.top.at_.toNat default).i.b)))] (vA (ql 3 2 (HS.hc z (i := 10) rfl) rfl rfl) (vA (ic.eB ex s.top.regs ((s.top.code.blocks.getD s.top.blk.toNat default).ins.getD s.top.at_.toNat default).i.b dk (HS.hc z (i := 5) rfl) (OS.sv x2 z (i := 6) rfl) (by first | omega | exact hgr _ | exact aj wf.rows _ | (dsimp only; omega)) (by first | omega | exact hgr _ | exact aj wf.rows _ | (dsimp only; omega))) trivial)) rfl fun _ => ?_
                refine wR 1 [(1, .o (iI ((s.top.code.blocks.getD s.top.blk.toNat default).ins.getD s.top.at_.toNat default).i.op)), (5, .o (iI ((s.top.code.blocks.getD s.top.blk.toNat default).ins.getD s.top.at_.toNat default).i.op))] 13 24 [] [(24, (.bool (((((s.top.code.blocks.getD s.top.blk.toNat default).ins.getD s.top.at_.toNat default).i.op == 20) || (((s.top.code.blocks.getD s.top.blk.toNat default).ins.getD s.top.at_.toNat default).i.op == 21)) && (bC s.top.regs ((s.top.code.blocks.getD s.top.blk.toNat default).ins.getD s.top.at_.toNat default).i.b == 0))))] (vA (ql 3 0 (HS.hc z (i := 10) rfl) rfl rfl) (vA (fun (g1 : (((s.top.code.blocks.getD s.top.blk.toNat default).ins.getD s.top.at_.toNat default).i.op == 20) = false) => (ql 3 0 (HS.hc z (i := 10) rfl) rfl rfl)) trivial)) rfl fun _ => ?_
                refine ao 1 1 (v := (((((s.top.code.blocks.getD s.top.blk.toNat default).ins.getD s.top.at_.toNat default).i.op == 20) || (((s.top.code.blocks.getD s.top.blk.toNat default).ins.getD s.top.at_.toNat default).i.op == 21)) && (bC s.top.regs ((s.top.code.blocks.getD s.top.blk.toNat default).ins.getD s.top.at_.toNat default).i.b == 0))) rfl rfl rfl rfl (fun jq => ?_) (fun jq => ?_)
                ·
                 try simp only [BS] at jq
                 refine ah ?_
                 refine wm (.pointer (some ⟨b, 0, none⟩)) rfl rfl rfl ?_
                 refine aJ (ax rfl rfl rfl) rfl rfl (i5 ex (2) (1) (0) (HS.callOwn z (i := 0) rfl)) ?_
                 rintro _ p8 ⟨ha, rfl⟩
                 replace ha := HS.backOwn z (i := 0) rfl rfl (fun _ hb => hb) ha
                 have ha : HS _ _ _ [[(b, .cells [(.slice la P.length lk), (.slice ca hd.length ck), (.slice pa (ps ++ [bt]).length pk), (iI s.fuel), (.bool true), (iI 2), (iI 1), (.slice oa s.out.length ok), (iI 0)] none false)], pc, pr, pp, pl, [(bt.b, .cells [(iI s.top.code.params), (iI s.top.code.regs), (.slice ba s.top.code.blocks.length bk), (.slice ra s.top.regs.length rk), (.slice aa s.top.args.length ak), (iI s.top.blk), (iI (s.top.at_ + 1)), (iI s.top.to_)] none false)], pg, po, I, A, av] _ := ha
                 refine au 1 rfl ?_
                 exact am ⟨.inr rfl, _, rfl, rfl, RunP.mk (bt := bt) (L := [I, A, av]) (by unfold bI; dsimp only [fu, fC, cb]; (repeat (first | rw [if_pos (by omega)] | rw [if_neg (by omega)] | rw [if_pos hlow] | rw [if_neg hlow] | (unfold cG; dsimp only [goT, az]) | (unfold f4; dsimp only [az]) | (unfold fY; dsimp only [ct, az]) | (unfold fQ; dsimp only [ct, az]) | (unfold cP; dsimp only [az]))); first | done | rfl | rw [hmap]) ha fR T y2 y3 y4 V (by first | exact hgr _ | exact ⟨by decide, by decide⟩ | omega) U x2 Z⟩
                ·
                 try simp only [BS] at jq
                 refine aR rfl ?_
                 refine fm (.pointer (some ⟨bt.b, 0, none⟩)) rfl rfl rfl ?_
                 refine ai (v := (.pointer (some ⟨E, 1, none⟩))) (id := .v) (bd rfl rfl) rfl rfl (aI rfl) (aF _) ?_
                 refine ai (v := (iI ((s.top.code.blocks.getD s.top.blk.toNat default).ins.getD s.top.at_.toNat default).i.a)) (id := .l E) (aT (i := 1) rfl rfl (HS.hc z.log0 (i := 10) rfl) rfl rfl) rfl rfl (bn rfl) (⟨.inl rfl, ⟨.inr trivial, trivial⟩⟩) ?_
                 refine ai (v := (.pointer (some ⟨E, 0, none⟩))) (id := .v) (bd rfl rfl) rfl rfl (aI rfl) (aF _) ?_
                 refine ai (v := (iI ((s.top.code.blocks.getD s.top.blk.toNat default).ins.getD s.top.at_.toNat default).i.op)) (id := .l E) (aT (i := 0) rfl rfl (HS.hc z.log0 (i := 10) rfl) rfl rfl) rfl rfl (bn rfl) (⟨.inl rfl, ⟨.inr trivial, ⟨.inr trivial, ⟨.inr trivial, trivial⟩⟩⟩⟩) ?_
                 refine ai (v := (iI (((s.top.code.blocks.getD s.top.blk.toNat default).ins.getD s.top.at_.toNat default).i.op - 17))) (id := .v) (ap_sub rfl rfl (w_i64 (n := ((s.top.code.blocks.getD s.top.blk.toNat default).ins.getD s.top.at_.toNat default).i.op - 17) (by first | omega | exact hgr _ | exact aj wf.rows _ | (dsimp only; omega)))) rfl rfl (aI rfl) (aF _) ?_
                 refine ai (v := (iI ((((s.top.code.blocks.getD s.top.blk.toNat default).ins.getD s.top.at_.toNat default).i.op - 17) + 4))) (id := .v) (ap_add rfl rfl (w_i64 (n := (((s.top.code.blocks.getD s.top.blk.toNat default).ins.getD s.top.at_.toNat default).i.op - 17) + 4) (by first | omega | exact hgr _ | exact aj wf.rows _ | (dsimp only; omega)))) rfl rfl (aI rfl) (aF _) ?_
                 refine fm (.pointer (some ⟨bt.b, 0, none⟩)) rfl rfl rfl ?_
                 refine ai (v := (.pointer (some ⟨E, 1, none⟩))) (id := .v) (bd rfl rfl) rfl rfl (aI rfl) (aF _) ?_
                 refine ai (v := (iI ((s.top.code.blocks.getD s.top.blk.toNat default).ins.getD s.top.at_.toNat default).i.a)) (id := .l E) (aT (i := 1) rfl rfl (HS.hc z.log0 (i := 10) rfl) rfl rfl) rfl rfl (bn rfl) (⟨.inl rfl, ⟨.inr trivial, ⟨.inr trivial, ⟨.inr trivial, ⟨.inr trivial, ⟨.inr trivial, ⟨.inr trivial, ⟨.inr trivial, ⟨.inr trivial, trivial⟩⟩⟩⟩⟩⟩⟩⟩⟩) ?_
                 refine a9 (W := []) (ax rfl rfl rfl) rfl rfl rfl (ic.iT ex s.top.regs ((s.top.code.blocks.getD s.top.blk.toNat default).ins.getD s.top.at_.toNat default).i.a _ (HS.hc z.log0 (i := 5) rfl) (OS.sv x2 z.log0 (i := 6) rfl) (by first | omega | exact hgr _ | exact aj wf.rows _ | (dsimp only; omega)) (by first | omega | exact hgr _ | exact aj wf.rows _ | (dsimp only; omega))) (⟨.inl rfl, ⟨.inl rfl, ⟨.inl rfl, ⟨.inr trivial, ⟨.inr trivial, ⟨.inr List.not_mem_nil, ⟨.inr trivial, ⟨.inr List.not_mem_nil, ⟨.inr trivial, ⟨.inr trivial, trivial⟩⟩⟩⟩⟩⟩⟩⟩⟩⟩) ?_
                 rintro _ _ ⟨qN, rfl, rfl, rfl⟩
                 refine ⟨fun b hb => absurd hb List.not_mem_nil, fun mN lv => ?_⟩
                 have hX := HS.lg z.log0 z lv
                 generalize ({ { dk with log := [] } with log := mN } : Heap) = lR at hX ⊢
                 refine fm (iI (bC s.top.regs ((s.top.code.blocks.getD s.top.blk.toNat default).ins.getD s.top.at_.toNat default).i.b)) rfl rfl rfl ?_
                 refine a9 (W := []) (ax rfl rfl rfl) rfl rfl rfl (iw.bin_c ex ((((s.top.code.blocks.getD s.top.blk.toNat default).ins.getD s.top.at_.toNat default).i.op - 17) + 4) (bC s.top.regs ((s.top.code.blocks.getD s.top.blk.toNat default).ins.getD s.top.at_.toNat default).i.a) (bC s.top.regs ((s.top.code.blocks.getD s.top.blk.toNat default).ins.getD s.top.at_.toNat default).i.b) _) (⟨.inl rfl, ⟨.inl rfl, ⟨.inl rfl, ⟨.inl rfl, ⟨.inl rfl, ⟨.inl rfl, ⟨.inl rfl, ⟨.inl rfl, ⟨.inl rfl, ⟨.inr List.not_mem_nil, ⟨.inr trivial, ⟨.inr trivial, trivial⟩⟩⟩⟩⟩⟩⟩⟩⟩⟩⟩⟩) ?_
                 rintro _ _ ⟨qO, rfl, rfl, rfl⟩
                 refine ⟨fun b hb => absurd hb List.not_mem_nil, fun mO lw => ?_⟩
                 have hu := HS.lg hX.log0 hX lw
                 generalize ({ { lR with log := [] } with log := mO } : Heap) = pu at hu ⊢
                 refine a9 (W := ((([(bt.b, .cells [(iI s.top.code.params), (iI s.top.code.regs), (.slice ba s.top.code.blocks.length bk), (.slice ra s.top.regs.length rk), (.slice aa s.top.args.length ak), (iI s.top.blk), (iI (s.top.at_ + 1)), (iI s.top.to_)] none false)] : Fp) ++ pg).map Prod.fst)) (ax rfl rfl rfl) rfl rfl rfl (ii ex s.top.regs ((s.top.code.blocks.getD s.top.blk.toNat default).ins.getD s.top.at_.toNat default).i.a (binV ((((s.top.code.blocks.getD s.top.blk.toNat default).ins.getD s.top.at_.toNat default).i.op - 17) + 4) (bC s.top.regs ((s.top.code.blocks.getD s.top.blk.toNat default).ins.getD s.top.at_.toNat default).i.a) (bC s.top.regs ((s.top.code.blocks.getD s.top.blk.toNat default).ins.getD s.top.at_.toNat default).i.b)) (HS.call2 hu.log0 (i := 5) (j := 6) (by decide) rfl rfl) x2 (by first | omega | exact hgr _ | exact aj wf.rows _ | (dsimp only; omega)) (by first | omega | exact hgr _ | exact aj wf.rows _ | (dsimp only; omega)) (by first | omega | exact hgr _ | exact dO (hgr _) | exact en | exact cx _)) (⟨.inl rfl, ⟨.inl rfl, ⟨.inl rfl, ⟨.inl rfl, ⟨.inl rfl, ⟨.inl rfl, ⟨.inl rfl, ⟨.inl rfl, ⟨.inl rfl, ⟨.inl rfl, ⟨.inl rfl, ⟨.inl rfl, ⟨.inl rfl, trivial⟩⟩⟩⟩⟩⟩⟩⟩⟩⟩⟩⟩⟩) ?_
                 rintro _ nY ⟨nm, nH, nx, mZ, p0, c8, ci, rfl, mq⟩
                 refine ⟨HS.didW ci, fun mP ly => ?_⟩
                 replace ci := HS.back2 hu.log0 (i := 5) (j := 6) (by decide) rfl rfl rfl (fun _ hb => hb) ci
                 replace ci := HS.lg ci hu ly
                 generalize ({ nY with log := mP } : Heap) = pw at ci ⊢
                 have ci : HS _ _ _ [ez, pc, pr, pp, pl, [(bt.b, .cells [(iI s.top.code.params), (iI s.top.code.regs), (.slice ba s.top.code.blocks.length bk), (.slice nm nH nx), (.slice aa s.top.args.length ak), (iI s.top.blk), (iI (s.top.at_ + 1)), (iI s.top.to_)] none false)], mZ, po, I, A, av] _ := ci
                 replace U := U.mono c8
                 replace Z := Z.mono c8
                 replace T := T.mono c8
                 replace y3 := y3.mono c8
                 replace V := V.mono c8
                 replace y2 := SF.mono c8 y2
                 replace y4 := FAM.mono (fun k => CR.mono c8 k) y4
                 refine bZ ?_
                 refine ay 1 rfl ?_
                 exact aA ⟨.inl rfl, _, rfl, rfl, RunP.mk (bt := bt) (L := [I, A, av]) (by unfold bI; dsimp only [fu, fC, cb]; (repeat (first | rw [if_pos (by omega)] | rw [if_neg (by omega)] | rw [if_pos hlow] | rw [if_neg hlow] | (unfold cG; dsimp only [goT, az]) | (unfold f4; dsimp only [az]) | (unfold fY; dsimp only [ct, az]) | (unfold fQ; dsimp only [ct, az]) | (unfold cP; dsimp only [az]))); first | done | rfl | rw [hmap]) ci (c8) T y2 y3 y4 V y7 U mq Z⟩
       rintro _ p9 ⟨rfl, ka⟩
       refine au 1 rfl ?_
       exact aA ⟨.inl rfl, _, rfl, rfl, ka⟩
end Go.Proofs.YtlabedbmgmfbaaaDoor.is_
