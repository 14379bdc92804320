/-
 One step of the interpreter of virtual code, by a symbolic run. No condition but that the table lies as laid.
-/
import Derived.Test.YtlabedbmgmfbaaaDoorZUIC
noncomputable section
namespace Go.Proofs.YtlabedbmgmfbaaaDoor.is_
open Go.R
set_option maxRecDepth 10000
set_option linter.unusedVariables false
open m1 m2 m3 m4 m5 m6 m7 m8 iw ia ib ic
theorem last_get {ps : List PtrT} {bt : PtrT} {n : Int} (h : n = (ps.length : Int)) : (ps ++ [bt]).getD n.toNat default = bt := by subst h; simp
theorem take_last {ps : List PtrT} {bt : PtrT} {n : Nat} (h : n = ps.length) : (ps ++ [bt]).take n = ps := by subst h; simp
theorem map_step {f : Int → Int} {l ag : List Int} {j : Nat} (h : ag = (l.take j).map f) (hj : j < l.length) : ag ++ [f (l.getD j 0)] = (l.take (j + 1)).map f := by
 rw [h, List.take_add_one, List.map_append, List.getD_eq_getElem?_getD, List.getElem?_eq_getElem hj]; rfl
theorem map_all {f : Int → Int} {l ag : List Int} {j : Nat} (h : ag = (l.take j).map f) (hj : l.length ≤ j) : ag = l.map f := by rw [h, List.take_of_length_le hj]
set_option maxHeartbeats 4000000 in
theorem step_c (ex : FuncId) {F : Fz} {H : Heap} {R : List Fp} {b : Nat} {la : Option Addr} {lk : Nat} {ca : Option Addr} {cn ck : Nat} {pa : Option Addr} {pn pk : Nat} {oa : Option Addr} {on ok : Nat} {q : Fp} {P : List VFnT} {nc N : Nat} (s : RunS) (hs : HS (.of H (b :: q.map Prod.fst)) F H [[(b, .cells [.slice la P.length lk, .slice ca cn ck, .slice pa pn pk, .int .i64 s.fuel, .bool s.over, .int .i64 s.kind, .int .i64 s.code, .slice oa on ok, .int .i64 s.val] none false)], q] R) (hq : RunQ F s ca cn ck pa pn pk oa on ok q) (hP : SR F (.slice la P.length lk) P) (hp : PrF P nc) (wf : RunOK P nc s N) (hil : ∀ c ∈ P, ∀ k, (c.blocks.getD k default).ins.length ≤ 1000000) (hN : N ≤ 1000000) : C Tryd.prog 1 (KT 60 ex 37 tabC) 72 [.pointer (some ⟨b, 0, none⟩)] H fun v H' => v = .tuple #[] ∧ RunP (.of H (b :: q.map Prod.fst)) F R P la lk b (bD P s) H' := by
 obtain ⟨hd, ps, bt, pc, pr, pp, pl, po, ba, bk, ra, rn, rk, aa, an, ak, pg, hsO, T, y2, y3, y4, V, y7, U, x2, Z⟩ := RunQ.open hq hs
 obtain rfl := OS.nlen T; obtain rfl := OS.nlen y3; obtain rfl := OS.nlen V; obtain rfl := OS.nlen x2
 have lan := SR.len' Z; subst lan
 have hC := wf.top; have hbk := hC.blk; have hat := hC.at_; have hrl := hC.regs; have hal := hC.args; have hto := hC.to_; have hcl := wf.cells; have hcnt := wf.cnt; have hfu := wf.fuel; have hps := FAM.len y4; have rm := FAM.len y2
 have hgr : ∀ n, in64 (bC s.top.regs n) := fun n => sv_in (OS.sv x2 hsO (i := 6) rfl) n
 have hlim := hp.lim _ hC.mem; have hmi := hil _ hC.mem s.top.blk.toNat; have hfx := vend_fx (b := (s.top.code.blocks.getD s.top.blk.toNat default)) (hC.fin hp) hlim.2.2.2.1
 have hpl : (ps ++ [bt]).length = ps.length + 1 := by simp
 clear hs hq
 refine aK Tryd.func72 rfl rfl ?_
 refine aw 1 rfl ?_
 obtain ⟨ri, o0⟩ := Sv.view (OS.sv y3 hsO (i := 3) rfl)
 refine wRD 2 [(3, .o (.slice pa (ps ++ [bt]).length pk)), (7, .o (.slice pa (ps ++ [bt]).length pk)), (11, .o (.pointer (some ⟨bt.b, 0, none⟩)))] 8 19 [2] [(2, (.pointer (some ⟨bt.b, 0, none⟩)))] (vA (ql 110 2 (hc0 (HS.hc hsO (i := 0) rfl)) rfl rfl) (vA (ql 110 2 (hc0 (HS.hc hsO (i := 0) rfl)) rfl rfl) (vA (vi (n := ((ps ++ [bt]).length : Int) - 1) (by first | omega | exact hgr _ | exact aj wf.rows _ | (dsimp only; omega))) (vA (Sv.ix (j := ((ps ++ [bt]).length : Int) - 1) (OS.sv y3 hsO (i := 3) rfl) (by first | omega | exact hgr _ | exact aj wf.rows _ | (dsimp only; omega)) (by first | omega | exact hgr _ | exact aj wf.rows _ | (dsimp only; omega))) (vA (ptq (show ((ps ++ [bt]).getD (((ps ++ [bt]).length : Int) - 1).toNat default) = bt from by exact last_get (by omega)) (ql 107 0 (hc0 (vP (o0 (((ps ++ [bt]).length : Int) - 1).toNat) (by first | omega | exact hgr _ | exact aj wf.rows _ | (dsimp only; omega)))) rfl rfl)) trivial))))) rfl rfl fun _ => ?_
 refine aP rfl ?_
 refine fm (.pointer (some ⟨bt.b, 0, none⟩)) rfl rfl rfl ?_
 refine ai (v := (.pointer (some ⟨bt.b, 0, none⟩))) (id := .v) (bN rfl) rfl rfl (aG rfl) (aF _) ?_
 refine ai (v := (.pointer (some ⟨bt.b, 0, none⟩))) (id := .v) (aZ rfl rfl) rfl rfl (aG rfl) (aF _) ?_
 refine ai (v := (.pointer (some ⟨bt.b, 2, none⟩))) (id := .v) (aZ rfl rfl) rfl rfl (aG rfl) (aF _) ?_
 refine ai (v := (.slice ba s.top.code.blocks.length bk)) (id := .l bt.b) (aT (i := 2) rfl rfl (HS.hc hsO.log0 (i := 5) rfl) rfl rfl) rfl rfl (bj rfl) (⟨.inl rfl, ⟨.inl rfl, ⟨.inl rfl, ⟨.inl rfl, trivial⟩⟩⟩⟩) ?_
 refine fm (.pointer (some ⟨bt.b, 0, none⟩)) rfl rfl rfl ?_
 refine ai (v := (.pointer (some ⟨bt.b, 0, none⟩))) (id := .v) (bN rfl) rfl rfl (aG rfl) (aF _) ?_
 refine ai (v := (.pointer (some ⟨bt.b, 5, none⟩))) (id := .v) (aZ rfl rfl) rfl rfl (aG rfl) (aF _) ?_
 refine ai (v := (iI s.top.blk)) (id := .l bt.b) (aT (i := 5) rfl rfl (HS.hc hsO.log0 (i := 5) rfl) rfl rfl) rfl rfl (bj rfl) (⟨.inl rfl, ⟨.inl rfl, ⟨.inl rfl, ⟨.inr trivial, ⟨.inr trivial, ⟨.inr trivial, ⟨.inr trivial, ⟨.inr trivial, trivial⟩⟩⟩⟩⟩⟩⟩⟩) ?_
 refine ai (v := (.pointer (some ⟨sB (.slice ba s.top.code.blocks.length bk), sO (.slice ba s.top.code.blocks.length bk) + s.top.blk.toNat * Rp.sz BlkT, none⟩))) (id := .v) (dX (α := BlkT) (j := s.top.blk) rfl rfl rfl rfl (SR.sv U hsO.log0) (by first | omega | exact hgr _ | exact aj wf.rows _ | (dsimp only; omega)) (by first | omega | exact hgr _ | exact aj wf.rows _ | (dsimp only; omega))) rfl rfl (aG rfl) (aF _) ?_
 obtain ⟨rj, oZ, oX⟩ := Sv.at (SR.sv U hsO.log0) (cN (x := default) (show s.top.blk.toNat < s.top.code.blocks.length from by first | omega | exact hgr _ | exact aj wf.rows _ | (dsimp only; omega)))
 obtain ⟨e6, gn, rfl, qz, qA, qB, qC, lO⟩ := oZ
 refine ai (v := (.agg ⟨[(.slice e6 (s.top.code.blocks.getD s.top.blk.toNat default).ins.length gn), (iI (s.top.code.blocks.getD s.top.blk.toNat default).fin), (iI (s.top.code.blocks.getD s.top.blk.toNat default).reg), (iI (s.top.code.blocks.getD s.top.blk.toNat default).tgt), (iI (s.top.code.blocks.getD s.top.blk.toNat default).els)]⟩)) (id := .l (sB (.slice ba s.top.code.blocks.length bk))) (iQ (i := 0) rfl rfl rfl oX rfl rfl rfl) rfl rfl (bj rfl) (⟨.inl rfl, ⟨.inl rfl, ⟨.inl rfl, ⟨.inl rfl, ⟨.inl rfl, ⟨.inl rfl, ⟨.inl rfl, ⟨.inl rfl, ⟨.inl rfl, ⟨.inl rfl, trivial⟩⟩⟩⟩⟩⟩⟩⟩⟩⟩) ?_
 refine dV (id := .a) (bY hsO.log0 rfl) rfl rfl (fun _ _ _ _ => iK rfl rfl rfl) (⟨.inr trivial, ⟨.inr trivial, ⟨.inr trivial, ⟨.inr trivial, ⟨.inr trivial, ⟨.inr trivial, ⟨.inr trivial, ⟨.inr trivial, ⟨.inr trivial, ⟨.inr trivial, ⟨.inr trivial, trivial⟩⟩⟩⟩⟩⟩⟩⟩⟩⟩⟩) ?_
 rintro _ H6 _ ⟨b5, rfl, hx, _⟩ o2 n7
 replace hx := HS.lg hx hsO n7
 generalize ({ H6 with log := o2 } : Heap) = q6 at hx ⊢
 let es : Fp := [(b, .cells [(.slice la P.length lk), (.slice ca hd.length ck), (.slice pa (ps ++ [bt]).length pk), (iI s.fuel), (.bool s.over), (iI s.kind), (iI s.code), (.slice oa s.out.length ok), (iI s.val)] none false)]
 have hx : HS _ _ _ [es, pc, pr, pp, pl, [(bt.b, .cells [(iI s.top.code.params), (iI s.top.code.regs), (.slice ba s.top.code.blocks.length bk), (.slice ra s.top.regs.length rk), (.slice aa s.top.args.length ak), (iI s.top.blk), (iI s.top.at_), (iI s.top.to_)] none false)], pg, po, [(b5, .cells [(.slice none 0 0), (iI 0), (iI 0), (iI 0), (iI 0)] none false)]] _ := hx
 refine iT (id := .x [b5]) (aC (q := 8) hx.log0 rfl rfl rfl rfl rfl rfl rfl rfl rfl) rfl (by rintro _ _ _ ⟨_, hwr⟩; exact d6 rfl rfl (Wr.did hwr)) (⟨.inl rfl, ⟨.inl rfl, ⟨.inl rfl, ⟨.inl rfl, ⟨.inl rfl, ⟨.inl rfl, ⟨.inl rfl, ⟨.inl rfl, ⟨.inl rfl, ⟨.inl rfl, ⟨.inl rfl, ⟨.inl rfl, trivial⟩⟩⟩⟩⟩⟩⟩⟩⟩⟩⟩⟩) ?_
 rintro _ H7 _ ⟨a7, _⟩ o3 n8
 replace a7 := HS.lg a7 hx n8
 generalize ({ H7 with log := o3 } : Heap) = q7 at a7 ⊢
 let I : Fp := [(b5, .cells [(.slice e6 (s.top.code.blocks.getD s.top.blk.toNat default).ins.length gn), (iI (s.top.code.blocks.getD s.top.blk.toNat default).fin), (iI (s.top.code.blocks.getD s.top.blk.toNat default).reg), (iI (s.top.code.blocks.getD s.top.blk.toNat default).tgt), (iI (s.top.code.blocks.getD s.top.blk.toNat default).els)] none false)]
 have a7 : HS _ _ _ [_, _, _, _, _, _, _, _, I] _ := a7
 refine bX ?_
 refine aw 3 rfl ?_
 refine wRD 1 [(3, .o (iI s.top.at_)), (5, .o (.slice e6 (s.top.code.blocks.getD s.top.blk.toNat default).ins.length gn))] 31 38 [] [(38, (.bool (s.top.at_ == ((s.top.code.blocks.getD s.top.blk.toNat default).ins.length : Int))))] (vA (ql 3 6 (hc0 (HS.hc a7 (i := 5) rfl)) rfl rfl) (vA (ql 40 0 (hc0 (HS.hc a7 (i := 8) rfl)) rfl rfl) trivial)) rfl rfl fun _ => ?_
 refine au 1 2 (v := (s.top.at_ == ((s.top.code.blocks.getD s.top.blk.toNat default).ins.length : Int))) rfl rfl rfl rfl (fun c9 => ?_) (fun c9 => ?_)
 ·
  try simp only [BS] at c9
  refine ah ?_
  refine wRo 2 0 [] 39 40 [] [(39, (.pointer (some ⟨b, 0, none⟩))), (40, (.pointer (some ⟨bt.b, 0, none⟩)))] trivial rfl fun _ => ?_
  refine aJ (R := fun v H' => v = .tuple #[] ∧ RunP (.of H (b :: q.map Prod.fst)) F R P la lk b (bD P s) H') (ay rfl rfl rfl) rfl rfl ?_ ?_
  ·
   refine aK Tryd.func85 rfl rfl ?_
   refine aw 1 rfl ?_
   refine aP rfl ?_
   refine fm (.pointer (some ⟨bt.b, 0, none⟩)) rfl rfl rfl ?_
   refine ai (v := (.pointer (some ⟨bt.b, 0, none⟩))) (id := .v) (bN rfl) rfl rfl (aG rfl) (aF _) ?_
   refine ai (v := (.pointer (some ⟨bt.b, 0, none⟩))) (id := .v) (aZ rfl rfl) rfl rfl (aG rfl) (aF _) ?_
   refine ai (v := (.pointer (some ⟨bt.b, 2, none⟩))) (id := .v) (aZ rfl rfl) rfl rfl (aG rfl) (aF _) ?_
   refine ai (v := (.slice ba s.top.code.blocks.length bk)) (id := .l bt.b) (aT (i := 2) rfl rfl (HS.hc a7.log0 (i := 5) rfl) rfl rfl) rfl rfl (bj rfl) (⟨.inl rfl, ⟨.inl rfl, ⟨.inl rfl, ⟨.inl rfl, trivial⟩⟩⟩⟩) ?_
   refine fm (.pointer (some ⟨bt.b, 0, none⟩)) rfl rfl rfl ?_
   refine ai (v := (.pointer (some ⟨bt.b, 0, none⟩))) (id := .v) (bN rfl) rfl rfl (aG rfl) (aF _) ?_
   refine ai (v := (.pointer (some ⟨bt.b, 5, none⟩))) (id := .v) (aZ rfl rfl) rfl rfl (aG rfl) (aF _) ?_
   refine ai (v := (iI s.top.blk)) (id := .l bt.b) (aT (i := 5) rfl rfl (HS.hc a7.log0 (i := 5) rfl) rfl rfl) rfl rfl (bj rfl) (⟨.inl rfl, ⟨.inl rfl, ⟨.inl rfl, ⟨.inr trivial, ⟨.inr trivial, ⟨.inr trivial, ⟨.inr trivial, ⟨.inr trivial, trivial⟩⟩⟩⟩⟩⟩⟩⟩) ?_
   refine ai (v := (.pointer (some ⟨sB (.slice ba s.top.code.blocks.length bk), sO (.slice ba s.top.code.blocks.length bk) + s.top.blk.toNat * Rp.sz BlkT, none⟩))) (id := .v) (dX (α := BlkT) (j := s.top.blk) rfl rfl rfl rfl (SR.sv U a7.log0) (by first | omega | exact hgr _ | exact aj wf.rows _ | (dsimp only; omega)) (by first | omega | exact hgr _ | exact aj wf.rows _ | (dsimp only; omega))) rfl rfl (aG rfl) (aF _) ?_
   obtain ⟨qv, od, n4⟩ := Sv.at (SR.sv U a7.log0) (cN (x := default) (show s.top.blk.toNat < s.top.code.blocks.length from by first | omega | exact hgr _ | exact aj wf.rows _ | (dsimp only; omega)))
   obtain ⟨ky, kM, rfl, pG, pH, pI, pJ, pT⟩ := od
   refine ai (v := (.agg ⟨[(.slice ky (s.top.code.blocks.getD s.top.blk.toNat default).ins.length kM), (iI (s.top.code.blocks.getD s.top.blk.toNat default).fin), (iI (s.top.code.blocks.getD s.top.blk.toNat default).reg), (iI (s.top.code.blocks.getD s.top.blk.toNat default).tgt), (iI (s.top.code.blocks.getD s.top.blk.toNat default).els)]⟩)) (id := .l (sB (.slice ba s.top.code.blocks.length bk))) (iQ (i := 0) rfl rfl rfl n4 rfl rfl rfl) rfl rfl (bj rfl) (⟨.inl rfl, ⟨.inl rfl, ⟨.inl rfl, ⟨.inl rfl, ⟨.inl rfl, ⟨.inl rfl, ⟨.inl rfl, ⟨.inl rfl, ⟨.inl rfl, ⟨.inl rfl, trivial⟩⟩⟩⟩⟩⟩⟩⟩⟩⟩) ?_
   refine dV (id := .a) (bY a7.log0 rfl) rfl rfl (fun _ _ _ _ => iK rfl rfl rfl) (⟨.inr trivial, ⟨.inr trivial, ⟨.inr trivial, ⟨.inr trivial, ⟨.inr trivial, ⟨.inr trivial, ⟨.inr trivial, ⟨.inr trivial, ⟨.inr trivial, ⟨.inr trivial, ⟨.inr trivial, trivial⟩⟩⟩⟩⟩⟩⟩⟩⟩⟩⟩) ?_
   rintro _ oH _ ⟨kT, rfl, fi, _⟩ oo l2
   replace fi := HS.lg fi a7 l2
   generalize ({ oH with log := oo } : Heap) = p9 at fi ⊢
   have fi : HS _ _ _ [_, _, _, _, _, _, _, _, _, [(kT, .cells [(.slice none 0 0), (iI 0), (iI 0), (iI 0), (iI 0)] none false)]] _ := fi
   refine iT (id := .x [kT]) (aC (q := 9) fi.log0 rfl rfl rfl rfl rfl rfl rfl rfl rfl) rfl (by rintro _ _ _ ⟨_, hwr⟩; exact d6 rfl rfl (Wr.did hwr)) (⟨.inl rfl, ⟨.inl rfl, ⟨.inl rfl, ⟨.inl rfl, ⟨.inl rfl, ⟨.inl rfl, ⟨.inl rfl, ⟨.inl rfl, ⟨.inl rfl, ⟨.inl rfl, ⟨.inl rfl, ⟨.inl rfl, trivial⟩⟩⟩⟩⟩⟩⟩⟩⟩⟩⟩⟩) ?_
   rintro _ oI _ ⟨J, _⟩ oq l3
   replace J := HS.lg J fi l3
   generalize ({ oI with log := oq } : Heap) = h2 at J ⊢
   let et : Fp := [(kT, .cells [(.slice ky (s.top.code.blocks.getD s.top.blk.toNat default).ins.length kM), (iI (s.top.code.blocks.getD s.top.blk.toNat default).fin), (iI (s.top.code.blocks.getD s.top.blk.toNat default).reg), (iI (s.top.code.blocks.getD s.top.blk.toNat default).tgt), (iI (s.top.code.blocks.getD s.top.blk.toNat default).els)] none false)]
   have J : HS _ _ _ [_, _, _, _, _, _, _, _, _, et] _ := J
   refine bX ?_
   refine aw 2 rfl ?_
   refine wR 3 [(1, .o (iI (s.top.code.blocks.getD s.top.blk.toNat default).fin))] 17 18 [] [(18, (iI (s.top.code.blocks.getD s.top.blk.toNat default).fin))] (vA (ql 3 1 (HS.hc J (i := 9) rfl) rfl rfl) trivial) rfl fun _ => ?_
   refine wR 1 [] 23 24 [] [(23, (.bool ((s.top.code.blocks.getD s.top.blk.toNat default).fin == 1)))] trivial rfl fun _ => ?_
   refine au 0 1 (v := ((s.top.code.blocks.getD s.top.blk.toNat default).fin == 1)) rfl rfl rfl rfl (fun kV => ?_) (fun kV => ?_)
   ·
    try simp only [BS] at kV
    refine ah ?_
    refine wRo 6 0 [(3, .o (iI (s.top.code.blocks.getD s.top.blk.toNat default).tgt))] 25 30 [] [(26, (.pointer (some ⟨bt.b, 0, none⟩))), (28, (iI (s.top.code.blocks.getD s.top.blk.toNat default).tgt)), (30, (.pointer (some ⟨bt.b, 5, none⟩)))] (vA (ql 3 3 (HS.hc J (i := 9) rfl) rfl rfl) trivial) rfl fun _ => ?_
    refine aN (aC (q := 5) J rfl rfl rfl rfl rfl rfl rfl rfl rfl) rfl ?_
    rintro _ qV _ ⟨kf, _⟩
    have kf : HS _ _ _ [_, _, _, _, _, [(bt.b, .cells [(iI s.top.code.params), (iI s.top.code.regs), (.slice ba s.top.code.blocks.length bk), (.slice ra s.top.regs.length rk), (.slice aa s.top.args.length ak), (iI (s.top.code.blocks.getD s.top.blk.toNat default).tgt), (iI s.top.at_), (iI s.top.to_)] none false)], _, _, _, _] _ := kf
    refine wRo 2 7 [] 31 32 [] [(32, (.pointer (some ⟨bt.b, 6, none⟩)))] trivial rfl fun _ => ?_
    refine aN (aC (q := 5) kf rfl rfl rfl rfl rfl rfl rfl rfl rfl) rfl ?_
    rintro _ qW _ ⟨kg, _⟩
    have kg : HS _ _ _ [_, _, _, _, _, [(bt.b, .cells [(iI s.top.code.params), (iI s.top.code.regs), (.slice ba s.top.code.blocks.length bk), (.slice ra s.top.regs.length rk), (.slice aa s.top.args.length ak), (iI (s.top.code.blocks.getD s.top.blk.toNat default).tgt), (iI 0), (iI s.top.to_)] none false)], _, _, _, _] _ := kg
    refine ao 1 rfl ?_
    exact aA ⟨.inl rfl, _, rfl, rfl, RunP.mk (bt := bt) (L := [I, et]) (by unfold bD; dsimp only [el, e9, b8]; (repeat (first | rw [if_pos (by omega)] | rw [if_neg (by omega)] | rw [if_pos hlow] | rw [if_neg hlow] | (unfold cr; dsimp only [goT, az]) | (unfold fD; dsimp only [az]) | (unfold fe; dsimp only [cv, az]) | (unfold fb; dsimp only [cv, az]) | (unfold cu; dsimp only [az]))); first | done | rfl | rw [hmap]) kg fR T y2 y3 y4 V y7 U x2 Z⟩
   ·
    try simp only [BS] at kV
    refine wR 1 [] 33 34 [] [(33, (.bool ((s.top.code.blocks.getD s.top.blk.toNat default).fin == 2)))] trivial rfl fun _ => ?_
    refine au 2 1 (v := ((s.top.code.blocks.getD s.top.blk.toNat default).fin == 2)) rfl rfl rfl rfl (fun kW => ?_) (fun kW => ?_)
    ·
     try simp only [BS] at kW
     refine wR 1 [(2, .o (iI (s.top.code.blocks.getD s.top.blk.toNat default).reg)), (3, .o (iI (bC s.top.regs (s.top.code.blocks.getD s.top.blk.toNat default).reg)))] 35 39 [] [(39, (.bool (bC s.top.regs (s.top.code.blocks.getD s.top.blk.toNat default).reg != 0)))] (vA (ql 3 2 (HS.hc J (i := 9) rfl) rfl rfl) (vA (ic.eJ ex s.top.regs (s.top.code.blocks.getD s.top.blk.toNat default).reg h2 (HS.hc J (i := 5) rfl) (OS.sv x2 J (i := 6) rfl) (by first | omega | exact hgr _ | exact aj wf.rows _ | (dsimp only; omega)) (by first | omega | exact hgr _ | exact aj wf.rows _ | (dsimp only; omega))) trivial)) rfl fun _ => ?_
     refine au 0 0 (v := (bC s.top.regs (s.top.code.blocks.getD s.top.blk.toNat default).reg != 0)) rfl rfl rfl rfl (fun kX => ?_) (fun kX => ?_)
     ·
      try simp only [BS] at kX
      refine ah ?_
      refine wRo 5 0 [(2, .o (iI (s.top.code.blocks.getD s.top.blk.toNat default).tgt))] 40 44 [] [(42, (iI (s.top.code.blocks.getD s.top.blk.toNat default).tgt)), (44, (.pointer (some ⟨bt.b, 5, none⟩)))] (vA (ql 3 3 (HS.hc J (i := 9) rfl) rfl rfl) trivial) rfl fun _ => ?_
      refine aN (aC (q := 5) J rfl rfl rfl rfl rfl rfl rfl rfl rfl) rfl ?_
      rintro _ qX _ ⟨kh, _⟩
      have kh : HS _ _ _ [_, _, _, _, _, [(bt.b, .cells [(iI s.top.code.params), (iI s.top.code.regs), (.slice ba s.top.code.blocks.length bk), (.slice ra s.top.regs.length rk), (.slice aa s.top.args.length ak), (iI (s.top.code.blocks.getD s.top.blk.toNat default).tgt), (iI s.top.at_), (iI s.top.to_)] none false)], _, _, _, _] _ := kh
      refine ao 1 rfl ?_
      refine ah ?_
      refine wRo 3 0 [] 50 52 [] [(52, (.pointer (some ⟨bt.b, 6, none⟩)))] trivial rfl fun _ => ?_
      refine aN (aC (q := 5) kh rfl rfl rfl rfl rfl rfl rfl rfl rfl) rfl ?_
      rintro _ qY _ ⟨ki, _⟩
      have ki : HS _ _ _ [_, _, _, _, _, [(bt.b, .cells [(iI s.top.code.params), (iI s.top.code.regs), (.slice ba s.top.code.blocks.length bk), (.slice ra s.top.regs.length rk), (.slice aa s.top.args.length ak), (iI (s.top.code.blocks.getD s.top.blk.toNat default).tgt), (iI 0), (iI s.top.to_)] none false)], _, _, _, _] _ := ki
      refine ao 1 rfl ?_
      exact aA ⟨.inl rfl, _, rfl, rfl, RunP.mk (bt := bt) (L := [I, et]) (by unfold bD; dsimp only [el, e9, b8]; (repeat (first | rw [if_pos (by omega)] | rw [if_neg (by omega)] | rw [if_pos hlow] | rw [if_neg hlow] | (unfold cr; dsimp only [goT, az]) | (unfold fD; dsimp only [az]) | (unfold fe; dsimp only [cv, az]) | (unfold fb; dsimp only [cv, az]) | (unfold cu; dsimp only [az]))); first | done | rfl | rw [hmap]) ki fR T y2 y3 y4 V y7 U x2 Z⟩
     ·
      try simp only [BS] at kX
      refine ah ?_
      refine wRo 5 0 [(2, .o (iI (s.top.code.blocks.getD s.top.blk.toNat default).els))] 45 49 [] [(47, (iI (s.top.code.blocks.getD s.top.blk.toNat default).els)), (49, (.pointer (some ⟨bt.b, 5, none⟩)))] (vA (ql 3 4 (HS.hc J (i := 9) rfl) rfl rfl) trivial) rfl fun _ => ?_
      refine aN (aC (q := 5) J rfl rfl rfl rfl rfl rfl rfl rfl rfl) rfl ?_
      rintro _ qZ _ ⟨kj, _⟩
      have kj : HS _ _ _ [_, _, _, _, _, [(bt.b, .cells [(iI s.top.code.params), (iI s.top.code.regs), (.slice ba s.top.code.blocks.length bk), (.slice ra s.top.regs.length rk), (.slice aa s.top.args.length ak), (iI (s.top.code.blocks.getD s.top.blk.toNat default).els), (iI s.top.at_), (iI s.top.to_)] none false)], _, _, _, _] _ := kj
      refine ao 1 rfl ?_
      refine ah ?_
      refine wRo 3 0 [] 50 52 [] [(52, (.pointer (some ⟨bt.b, 6, none⟩)))] trivial rfl fun _ => ?_
      refine aN (aC (q := 5) kj rfl rfl rfl rfl rfl rfl rfl rfl rfl) rfl ?_
      rintro _ q0 _ ⟨kk, _⟩
      have kk : HS _ _ _ [_, _, _, _, _, [(bt.b, .cells [(iI s.top.code.params), (iI s.top.code.regs), (.slice ba s.top.code.blocks.length bk), (.slice ra s.top.regs.length rk), (.slice aa s.top.args.length ak), (iI (s.top.code.blocks.getD s.top.blk.toNat default).els), (iI 0), (iI s.top.to_)] none false)], _, _, _, _] _ := kk
      refine ao 1 rfl ?_
      exact aA ⟨.inl rfl, _, rfl, rfl, RunP.mk (bt := bt) (L := [I, et]) (by unfold bD; dsimp only [el, e9, b8]; (repeat (first | rw [if_pos (by omega)] | rw [if_neg (by omega)] | rw [if_pos hlow] | rw [if_neg hlow] | (unfold cr; dsimp only [goT, az]) | (unfold fD; dsimp only [az]) | (unfold fe; dsimp only [cv, az]) | (unfold fb; dsimp only [cv, az]) | (unfold cu; dsimp only [az]))); first | done | rfl | rw [hmap]) kk fR T y2 y3 y4 V y7 U x2 Z⟩
    ·
     try simp only [BS] at kW
     refine wR 1 [] 53 54 [] [(53, (.bool ((s.top.code.blocks.getD s.top.blk.toNat default).fin == 3)))] trivial rfl fun _ => ?_
     refine au 1 0 (v := ((s.top.code.blocks.getD s.top.blk.toNat default).fin == 3)) rfl rfl rfl rfl (fun kY => ?_) (fun kY => ?_)
     ·
      try simp only [BS] at kY
      refine wR 3 [(2, .o (iI (s.top.code.blocks.getD s.top.blk.toNat default).reg)), (3, .o (iI (bC s.top.regs (s.top.code.blocks.getD s.top.blk.toNat default).reg)))] 55 58 [5] [(5, (iI (bC s.top.regs (s.top.code.blocks.getD s.top.blk.toNat default).reg)))] (vA (ql 3 2 (HS.hc J (i := 9) rfl) rfl rfl) (vA (ic.eJ ex s.top.regs (s.top.code.blocks.getD s.top.blk.toNat default).reg h2 (HS.hc J (i := 5) rfl) (OS.sv x2 J (i := 6) rfl) (by first | omega | exact hgr _ | exact aj wf.rows _ | (dsimp only; omega)) (by first | omega | exact hgr _ | exact aj wf.rows _ | (dsimp only; omega))) trivial)) rfl fun _ => ?_
      refine wR 1 [(3, .o (.slice pa (ps ++ [bt]).length pk))] 59 64 [] [(64, (.bool (((ps ++ [bt]).length : Int) == 1)))] (vA (ql 110 2 (HS.hc J (i := 0) rfl) rfl rfl) trivial) rfl fun _ => ?_
      refine au 1 2 (v := (((ps ++ [bt]).length : Int) == 1)) rfl rfl rfl rfl (fun kZ => ?_) (fun kZ => ?_)
      ·
       try simp only [BS] at kZ
       have hlow : s.low = [] := List.eq_nil_of_length_eq_zero (by omega)
       refine ah ?_
       refine wRo 2 0 [] 65 66 [] [(65, (.pointer (some ⟨b, 0, none⟩))), (66, (iI (bC s.top.regs (s.top.code.blocks.getD s.top.blk.toNat default).reg)))] trivial rfl fun _ => ?_
       refine aJ (ay rfl rfl rfl) rfl rfl (i8 ex (1) (0) (bC s.top.regs (s.top.code.blocks.getD s.top.blk.toNat default).reg) (HS.callOwn J (i := 0) rfl)) ?_
       rintro _ q1 ⟨hv, rfl⟩
       replace hv := HS.backOwn J (i := 0) rfl rfl (fun _ hb => hb) hv
       have hv : HS _ _ _ [[(b, .cells [(.slice la P.length lk), (.slice ca hd.length ck), (.slice pa (ps ++ [bt]).length pk), (iI s.fuel), (.bool true), (iI 1), (iI 0), (.slice oa s.out.length ok), (iI (bC s.top.regs (s.top.code.blocks.getD s.top.blk.toNat default).reg))] none false)], pc, pr, pp, pl, [(bt.b, .cells [(iI s.top.code.params), (iI s.top.code.regs), (.slice ba s.top.code.blocks.length bk), (.slice ra s.top.regs.length rk), (.slice aa s.top.args.length ak), (iI s.top.blk), (iI s.top.at_), (iI s.top.to_)] none false)], pg, po, I, et] _ := hv
       refine ao 1 rfl ?_
       exact am ⟨.inr rfl, _, rfl, rfl, RunP.mk (bt := bt) (L := [I, et]) (by unfold bD; dsimp only [el, e9, b8]; (repeat (first | rw [if_pos (by omega)] | rw [if_neg (by omega)] | rw [if_pos hlow] | rw [if_neg hlow] | (unfold cr; dsimp only [goT, az]) | (unfold fD; dsimp only [az]) | (unfold fe; dsimp only [cv, az]) | (unfold fb; dsimp only [cv, az]) | (unfold cu; dsimp only [az]))); first | done | rfl | rw [hmap]) hv fR T y2 y3 y4 V (by first | exact hgr _ | exact ⟨by decide, by decide⟩ | omega) U x2 Z⟩
      ·
       try simp only [BS] at kZ
       have hlow : s.low ≠ [] := fun e => by have := congrArg List.length e; simp only [List.length_nil] at this; omega
       refine aP rfl ?_
       refine fm (.pointer (some ⟨b, 0, none⟩)) rfl rfl rfl ?_
       refine fm (.pointer (some ⟨b, 0, none⟩)) rfl rfl rfl ?_
       refine ai (v := (.pointer (some ⟨b, 0, none⟩))) (id := .v) (bN rfl) rfl rfl (aG rfl) (aF _) ?_
       refine ai (v := (.pointer (some ⟨b, 2, none⟩))) (id := .v) (aZ rfl rfl) rfl rfl (aG rfl) (aF _) ?_
       refine ai (v := (.slice pa (ps ++ [bt]).length pk)) (id := .l b) (aT (i := 2) rfl rfl (HS.hc J.log0 (i := 0) rfl) rfl rfl) rfl rfl (bj rfl) (⟨.inl rfl, ⟨.inl rfl, ⟨.inl rfl, ⟨.inr trivial, trivial⟩⟩⟩⟩) ?_
       refine fm (.pointer (some ⟨b, 0, none⟩)) rfl rfl rfl ?_
       refine ai (v := (.pointer (some ⟨b, 0, none⟩))) (id := .v) (bN rfl) rfl rfl (aG rfl) (aF _) ?_
       refine ai (v := (.pointer (some ⟨b, 2, none⟩))) (id := .v) (aZ rfl rfl) rfl rfl (aG rfl) (aF _) ?_
       refine ai (v := (.slice pa (ps ++ [bt]).length pk)) (id := .l b) (aT (i := 2) rfl rfl (HS.hc J.log0 (i := 0) rfl) rfl rfl) rfl rfl (bj rfl) (⟨.inl rfl, ⟨.inl rfl, ⟨.inl rfl, ⟨.inr trivial, ⟨.inr trivial, ⟨.inr trivial, ⟨.inr trivial, ⟨.inr trivial, trivial⟩⟩⟩⟩⟩⟩⟩⟩) ?_
       refine ai (v := (iI ((ps ++ [bt]).length : Int))) (id := .v) (j4 (α := PtrT) rfl rfl (OS.sv y3 J.log0 (i := 3) rfl)) rfl rfl (jS rfl) (aF _) ?_
       refine ai (v := (iI (((ps ++ [bt]).length : Int) - 1))) (id := .v) (ap_sub rfl rfl (jD (n := ((ps ++ [bt]).length : Int) - 1) (by first | omega | exact hgr _ | exact aj wf.rows _ | (dsimp only; omega)))) rfl rfl (aG rfl) (aF _) ?_
       refine dV (id := .r) (rs_cutOt (α := PtrT) (j := (((ps ++ [bt]).length : Int) - 1).toNat) y3 J.log0 (q := 3) rfl rfl rfl rfl (optN (by first | omega | exact hgr _ | exact aj wf.rows _ | (dsimp only; omega))) (by first | omega | exact hgr _ | exact aj wf.rows _ | (dsimp only; omega))) rfl rfl (by rintro _ _ _ ⟨_, _, _, hH, _⟩; simp only at hH; subst hH; exact did_r fun b hb => absurd hb List.not_mem_nil) (⟨.inl rfl, ⟨.inl rfl, ⟨.inl rfl, ⟨.inl rfl, ⟨.inl rfl, ⟨.inl rfl, ⟨.inl rfl, ⟨.inl rfl, ⟨.inl rfl, ⟨.inl rfl, ⟨.inr trivial, trivial⟩⟩⟩⟩⟩⟩⟩⟩⟩⟩⟩) ?_
       rintro _ _ _ ⟨hu, hz, rfl, hE, fd⟩ ot l4
       simp only at hE; replace hE := hE.symm; subst hE
       have kl := HS.lg J.log0 J l4
       generalize ({ { h2 with log := [] } with log := ot } : Heap) = qd at kl ⊢
       refine ai (v := (.pointer (some ⟨b, 0, none⟩))) (id := .v) (bN rfl) rfl rfl (aG rfl) (aF _) ?_
       refine ai (v := (.pointer (some ⟨b, 2, none⟩))) (id := .v) (aZ rfl rfl) rfl rfl (aG rfl) (aF _) ?_
       refine iT (id := .x [b]) (aC (q := 0) kl.log0 rfl rfl rfl rfl rfl rfl rfl rfl rfl) rfl (by rintro _ _ _ ⟨_, hwr⟩; exact d6 rfl rfl (Wr.did hwr)) (⟨.inl rfl, ⟨.inl rfl, ⟨.inl rfl, ⟨.inl rfl, ⟨.inl rfl, ⟨.inl rfl, ⟨.inl rfl, ⟨.inl rfl, ⟨.inl rfl, ⟨.inl rfl, ⟨.inl rfl, ⟨.inl rfl, ⟨.inl rfl, ⟨.inl rfl, trivial⟩⟩⟩⟩⟩⟩⟩⟩⟩⟩⟩⟩⟩⟩) ?_
       rintro _ oJ _ ⟨hf, _⟩ ou l5
       replace hf := HS.lg hf kl l5
       generalize ({ oJ with log := ou } : Heap) = qe at hf ⊢
       have hf : HS _ _ _ [[(b, .cells [(.slice la P.length lk), (.slice ca hd.length ck), (.slice hu ((ps ++ [bt]).take (((ps ++ [bt]).length : Int) - 1).toNat).length hz), (iI s.fuel), (.bool s.over), (iI s.kind), (iI s.code), (.slice oa s.out.length ok), (iI s.val)] none false)], _, _, _, _, _, _, _, _, _] _ := hf
       refine bX ?_
       refine aw 1 rfl ?_
       obtain ⟨a8, a0, lJ, nN, kB, kC, nO, ry, nP, kz, rh, kA, e2, hsW, z4, z1, z2, z3⟩ := pool_pop y4 hlow hf rfl
       obtain rfl := OS.nlen z2; have om := SR.len' z3; subst om
       have e3 : (ps ++ [bt]).take (((ps ++ [bt]).length : Int) - 1).toNat = a8 ++ [a0] := (take_last (by omega)).trans e2
       rw [e3] at hsW fd
       have qF : (a8 ++ [a0]).length = a8.length + 1 := by simp
       have qG := congrArg List.length e2
       have rq := (wf.low _ (last_mem hlow)).regs
       let kv : Fp := [(b, .cells [(.slice la P.length lk), (.slice ca hd.length ck), (.slice hu (a8 ++ [a0]).length hz), (iI s.fuel), (.bool s.over), (iI s.kind), (iI s.code), (.slice oa s.out.length ok), (iI s.val)] none false)]
       have hsW : HS _ _ _ [kv, pc, pr, pp, lJ, [(bt.b, .cells [(iI s.top.code.params), (iI s.top.code.regs), (.slice ba s.top.code.blocks.length bk), (.slice ra s.top.regs.length rk), (.slice aa s.top.args.length ak), (iI s.top.blk), (iI s.top.at_), (iI s.top.to_)] none false)], pg, po, I, et, [(a0.b, .cells [(iI (s.low.getLastD default).code.params), (iI (s.low.getLastD default).code.regs), (.slice kB (s.low.getLastD default).code.blocks.length kC), (.slice nO (s.low.getLastD default).regs.length nP), (.slice kz (s.low.getLastD default).args.length kA), (iI (s.low.getLastD default).blk), (iI (s.low.getLastD default).at_), (iI (s.low.getLastD default).to_)] none false)], nN] _ := hsW
       refine aP rfl ?_
       refine fm (.pointer (some ⟨b, 0, none⟩)) rfl rfl rfl ?_
       refine ai (v := (.pointer (some ⟨b, 0, none⟩))) (id := .v) (bN rfl) rfl rfl (aG rfl) (aF _) ?_
       refine ai (v := (.pointer (some ⟨b, 2, none⟩))) (id := .v) (aZ rfl rfl) rfl rfl (aG rfl) (aF _) ?_
       refine ai (v := (.slice hu (a8 ++ [a0]).length hz)) (id := .l b) (aT (i := 2) rfl rfl (HS.hc hsW.log0 (i := 0) rfl) rfl rfl) rfl rfl (bj rfl) (⟨.inl rfl, ⟨.inl rfl, ⟨.inl rfl, trivial⟩⟩⟩) ?_
       refine fm (.pointer (some ⟨b, 0, none⟩)) rfl rfl rfl ?_
       refine ai (v := (.pointer (some ⟨b, 0, none⟩))) (id := .v) (bN rfl) rfl rfl (aG rfl) (aF _) ?_
       refine ai (v := (.pointer (some ⟨b, 2, none⟩))) (id := .v) (aZ rfl rfl) rfl rfl (aG rfl) (aF _) ?_
       refine ai (v := (.slice hu (a8 ++ [a0]).length hz)) (id := .l b) (aT (i := 2) rfl rfl (HS.hc hsW.log0 (i := 0) rfl) rfl rfl) rfl rfl (bj rfl) (⟨.inl rfl, ⟨.inl rfl, ⟨.inl rfl, ⟨.inr trivial, ⟨.inr trivial, ⟨.inr trivial, ⟨.inr trivial, trivial⟩⟩⟩⟩⟩⟩⟩) ?_
       refine ai (v := (iI ((a8 ++ [a0]).length : Int))) (id := .v) (j4 (α := PtrT) rfl rfl (OS.sv fd hsW.log0 (i := 3) rfl)) rfl rfl (jS rfl) (aF _) ?_
       refine ai (v := (iI (((a8 ++ [a0]).length : Int) - 1))) (id := .v) (ap_sub rfl rfl (jD (n := ((a8 ++ [a0]).length : Int) - 1) (by first | omega | exact hgr _ | exact aj wf.rows _ | (dsimp only; omega)))) rfl rfl (aG rfl) (aF _) ?_
       refine ai (v := (.pointer (some ⟨sB (.slice hu (a8 ++ [a0]).length hz), sO (.slice hu (a8 ++ [a0]).length hz) + (((a8 ++ [a0]).length : Int) - 1).toNat * Rp.sz PtrT, none⟩))) (id := .v) (dX (α := PtrT) (j := ((a8 ++ [a0]).length : Int) - 1) rfl rfl rfl rfl (OS.sv fd hsW.log0 (i := 3) rfl) (by first | omega | exact hgr _ | exact aj wf.rows _ | (dsimp only; omega)) (by first | omega | exact hgr _ | exact aj wf.rows _ | (dsimp only; omega))) rfl rfl (aG rfl) (aF _) ?_
       obtain ⟨qt, oj⟩ := Sv.view (OS.sv fd hsW.log0 (i := 3) rfl)
       refine ai (v := (.pointer (some ⟨a0.b, 0, none⟩))) (id := .l (sB (.slice hu (a8 ++ [a0]).length hz))) (aT (i := 0) rfl rfl (hcq (show ((a8 ++ [a0]).getD (((a8 ++ [a0]).length : Int) - 1).toNat default) = a0 from by exact last_get (by omega)) (vP (oj (((a8 ++ [a0]).length : Int) - 1).toNat) (by first | omega | exact hgr _ | exact aj wf.rows _ | (dsimp only; omega)))) rfl rfl) rfl rfl (bj rfl) (⟨.inl rfl, ⟨.inl rfl, ⟨.inl rfl, ⟨.inl rfl, ⟨.inl rfl, ⟨.inl rfl, ⟨.inl rfl, ⟨.inl rfl, ⟨.inl rfl, ⟨.inl rfl, ⟨.inl rfl, trivial⟩⟩⟩⟩⟩⟩⟩⟩⟩⟩⟩) ?_
       refine fm (.pointer (some ⟨bt.b, 0, none⟩)) rfl rfl rfl ?_
       refine ai (v := (.pointer (some ⟨bt.b, 0, none⟩))) (id := .v) (bN rfl) rfl rfl (aG rfl) (aF _) ?_
       refine ai (v := (.pointer (some ⟨bt.b, 7, none⟩))) (id := .v) (aZ rfl rfl) rfl rfl (aG rfl) (aF _) ?_
       refine ai (v := (iI s.top.to_)) (id := .l bt.b) (aT (i := 7) rfl rfl (HS.hc hsW.log0 (i := 5) rfl) rfl rfl) rfl rfl (bj rfl) (⟨.inl rfl, ⟨.inl rfl, ⟨.inl rfl, ⟨.inr trivial, ⟨.inr trivial, ⟨.inr trivial, ⟨.inr trivial, ⟨.inr trivial, ⟨.inr trivial, ⟨.inr trivial, ⟨.inr trivial, ⟨.inr trivial, ⟨.inr trivial, ⟨.inr trivial, ⟨.inr trivial, trivial⟩⟩⟩⟩⟩⟩⟩⟩⟩⟩⟩⟩⟩⟩⟩) ?_
       refine fm (iI (bC s.top.regs (s.top.code.blocks.getD s.top.blk.toNat default).reg)) rfl rfl rfl ?_
       refine aY (W := ((([(a0.b, .cells [(iI (s.low.getLastD default).code.params), (iI (s.low.getLastD default).code.regs), (.slice kB (s.low.getLastD default).code.blocks.length kC), (.slice nO (s.low.getLastD default).regs.length nP), (.slice kz (s.low.getLastD default).args.length kA), (iI (s.low.getLastD default).blk), (iI (s.low.getLastD default).at_), (iI (s.low.getLastD default).to_)] none false)] : Fp) ++ nN).map Prod.fst)) (ay rfl rfl rfl) rfl rfl rfl (il ex (s.low.getLastD default).regs s.top.to_ (bC s.top.regs (s.top.code.blocks.getD s.top.blk.toNat default).reg) (HS.call2 hsW.log0 (i := 10) (j := 11) (by decide) rfl rfl) z2 (by first | omega | exact hgr _ | exact aj wf.rows _ | (dsimp only; omega)) (by first | omega | exact hgr _ | exact aj wf.rows _ | (dsimp only; omega)) (by first | omega | exact hgr _ | exact dO (hgr _) | exact eA | exact cB _)) (⟨.inl rfl, ⟨.inl rfl, ⟨.inl rfl, ⟨.inl rfl, ⟨.inl rfl, ⟨.inl rfl, ⟨.inl rfl, ⟨.inl rfl, ⟨.inl rfl, ⟨.inl rfl, ⟨.inl rfl, ⟨.inl rfl, ⟨.inl rfl, ⟨.inl rfl, ⟨.inl rfl, ⟨.inl rfl, ⟨.inl rfl, trivial⟩⟩⟩⟩⟩⟩⟩⟩⟩⟩⟩⟩⟩⟩⟩⟩⟩) ?_
       rintro _ oK ⟨lL, lN, lM, lK, qS, ez, d2, rfl, oe⟩
       refine ⟨HS.didW d2, fun ov l6 => ?_⟩
       replace d2 := HS.back2 hsW.log0 (i := 10) (j := 11) (by decide) rfl rfl rfl (fun _ hb => hb) d2
       replace d2 := HS.lg d2 hsW l6
       generalize ({ oK with log := ov } : Heap) = qf at d2 ⊢
       have d2 : HS _ _ _ [kv, pc, pr, pp, lJ, [(bt.b, .cells [(iI s.top.code.params), (iI s.top.code.regs), (.slice ba s.top.code.blocks.length bk), (.slice ra s.top.regs.length rk), (.slice aa s.top.args.length ak), (iI s.top.blk), (iI s.top.at_), (iI s.top.to_)] none false)], pg, po, I, et, [(a0.b, .cells [(iI (s.low.getLastD default).code.params), (iI (s.low.getLastD default).code.regs), (.slice kB (s.low.getLastD default).code.blocks.length kC), (.slice lL lN lM), (.slice kz (s.low.getLastD default).args.length kA), (iI (s.low.getLastD default).blk), (iI (s.low.getLastD default).at_), (iI (s.low.getLastD default).to_)] none false)], lK] _ := d2
       replace fd := fd.mono ez
       replace T := T.mono ez
       replace V := V.mono ez
       replace z1 := z1.mono ez
       replace z3 := z3.mono ez
       replace y2 := SF.mono ez y2
       replace z4 := FAM.mono (fun k => CR.mono ez k) z4
       refine bX ?_
       refine aw 1 rfl ?_
       have mv : HS _ _ _ [kv, pc, pr, pp, lJ, [(a0.b, .cells [(iI (s.low.getLastD default).code.params), (iI (s.low.getLastD default).code.regs), (.slice kB (s.low.getLastD default).code.blocks.length kC), (.slice lL lN lM), (.slice kz (s.low.getLastD default).args.length kA), (iI (s.low.getLastD default).blk), (iI (s.low.getLastD default).at_), (iI (s.low.getLastD default).to_)] none false)], lK, po, [(bt.b, .cells [(iI s.top.code.params), (iI s.top.code.regs), (.slice ba s.top.code.blocks.length bk), (.slice ra s.top.regs.length rk), (.slice aa s.top.args.length ak), (iI s.top.blk), (iI s.top.at_), (iI s.top.to_)] none false)], pg, I, et] _ := HS.flat d2 (permIdx [0, 1, 2, 3, 4, 10, 11, 7, 5, 6, 8, 9] rfl (show List.Perm [0, 1, 2, 3, 4, 10, 11, 7, 5, 6, 8, 9] (List.range 12) by decide))
       exact aA ⟨.inl rfl, _, rfl, rfl, RunP.mk (bt := a0) (L := [[(bt.b, .cells [(iI s.top.code.params), (iI s.top.code.regs), (.slice ba s.top.code.blocks.length bk), (.slice ra s.top.regs.length rk), (.slice aa s.top.args.length ak), (iI s.top.blk), (iI s.top.at_), (iI s.top.to_)] none false)], pg, I, et]) (by unfold bD; dsimp only [el, e9, b8]; (repeat (first | rw [if_pos (by omega)] | rw [if_neg (by omega)] | rw [if_pos hlow] | rw [if_neg hlow] | (unfold cr; dsimp only [goT, az]) | (unfold fD; dsimp only [az]) | (unfold fe; dsimp only [cv, az]) | (unfold fb; dsimp only [cv, az]) | (unfold cu; dsimp only [az]))); first | done | rfl | rw [hmap]) mv (ez) T y2 fd z4 V y7 z1 oe z3⟩
     ·
      try simp only [BS] at kY
      refine ah ?_
      refine wRo 3 0 [(2, .o (iI (s.top.code.blocks.getD s.top.blk.toNat default).tgt))] 19 21 [] [(19, (.pointer (some ⟨b, 0, none⟩))), (21, (iI (s.top.code.blocks.getD s.top.blk.toNat default).tgt))] (vA (ql 3 3 (HS.hc J (i := 9) rfl) rfl rfl) trivial) rfl fun _ => ?_
      refine aJ (ay rfl rfl rfl) rfl rfl (i8 ex (2) (s.top.code.blocks.getD s.top.blk.toNat default).tgt (0) (HS.callOwn J (i := 0) rfl)) ?_
      rintro _ q2 ⟨hw, rfl⟩
      replace hw := HS.backOwn J (i := 0) rfl rfl (fun _ hb => hb) hw
      have hw : HS _ _ _ [[(b, .cells [(.slice la P.length lk), (.slice ca hd.length ck), (.slice pa (ps ++ [bt]).length pk), (iI s.fuel), (.bool true), (iI 2), (iI (s.top.code.blocks.getD s.top.blk.toNat default).tgt), (.slice oa s.out.length ok), (iI 0)] none false)], pc, pr, pp, pl, [(bt.b, .cells [(iI s.top.code.params), (iI s.top.code.regs), (.slice ba s.top.code.blocks.length bk), (.slice ra s.top.regs.length rk), (.slice aa s.top.args.length ak), (iI s.top.blk), (iI s.top.at_), (iI s.top.to_)] none false)], pg, po, I, et] _ := hw
      refine ao 1 rfl ?_
      exact aA ⟨.inl rfl, _, rfl, rfl, RunP.mk (bt := bt) (L := [I, et]) (by unfold bD; dsimp only [el, e9, b8]; (repeat (first | rw [if_pos (by omega)] | rw [if_neg (by omega)] | rw [if_pos hlow] | rw [if_neg hlow] | (unfold cr; dsimp only [goT, az]) | (unfold fD; dsimp only [az]) | (unfold fe; dsimp only [cv, az]) | (unfold fb; dsimp only [cv, az]) | (unfold cu; dsimp only [az]))); first | done | rfl | rw [hmap]) hw fR T y2 y3 y4 V (by first | exact hgr _ | exact ⟨by decide, by decide⟩ | omega) U x2 Z⟩
  rintro _ q3 ⟨rfl, kP⟩
  refine ao 1 rfl ?_
  exact am ⟨.inr rfl, _, rfl, rfl, kP⟩
 ·
  try simp only [BS] at c9
  have hI : InF P nc s.top.code ((s.top.code.blocks.getD s.top.blk.toNat default).ins.getD s.top.at_.toNat default) := hC.inF hp c9
  have hia := hI.a; have hib := hI.b; have hic := hI.cc; have hiA := hI.args; have hiM := hI.mem; have hiP := hI.par; have hiC := hI.call; have hiL := hI.al
  refine aP rfl ?_
  refine ai (v := (.pointer (some ⟨b5, 0, none⟩))) (id := .v) (aZ rfl rfl) rfl rfl (aG rfl) (aF _) ?_
  refine ai (v := (.slice e6 (s.top.code.blocks.getD s.top.blk.toNat default).ins.length gn)) (id := .l b5) (aT (i := 0) rfl rfl (HS.hc a7.log0 (i := 8) rfl) rfl rfl) rfl rfl (bj rfl) (⟨.inl rfl, trivial⟩) ?_
  refine fm (.pointer (some ⟨bt.b, 0, none⟩)) rfl rfl rfl ?_
  refine ai (v := (.pointer (some ⟨bt.b, 0, none⟩))) (id := .v) (bN rfl) rfl rfl (aG rfl) (aF _) ?_
  refine ai (v := (.pointer (some ⟨bt.b, 6, none⟩))) (id := .v) (aZ rfl rfl) rfl rfl (aG rfl) (aF _) ?_
  refine ai (v := (iI s.top.at_)) (id := .l bt.b) (aT (i := 6) rfl rfl (HS.hc a7.log0 (i := 5) rfl) rfl rfl) rfl rfl (bj rfl) (⟨.inl rfl, ⟨.inl rfl, ⟨.inl rfl, ⟨.inr trivial, ⟨.inr trivial, trivial⟩⟩⟩⟩⟩) ?_
  refine ai (v := (.pointer (some ⟨sB (.slice e6 (s.top.code.blocks.getD s.top.blk.toNat default).ins.length gn), sO (.slice e6 (s.top.code.blocks.getD s.top.blk.toNat default).ins.length gn) + s.top.at_.toNat * Rp.sz VInT, none⟩))) (id := .v) (dX (α := VInT) (j := s.top.at_) rfl rfl rfl rfl (SR.sv lO a7.log0) (by first | omega | exact hgr _ | exact aj wf.rows _ | (dsimp only; omega)) (by first | omega | exact hgr _ | exact aj wf.rows _ | (dsimp only; omega))) rfl rfl (aG rfl) (aF _) ?_
  obtain ⟨qw, og, n5⟩ := Sv.at (SR.sv lO a7.log0) (cN (x := default) (show s.top.at_.toNat < (s.top.code.blocks.getD s.top.blk.toNat default).ins.length from by first | omega | exact hgr _ | exact aj wf.rows _ | (dsimp only; omega)))
  obtain ⟨g2, g9, rfl, pK, pL, pM, pN, pO, ht⟩ := og
  refine ai (v := (.agg ⟨[(iI ((s.top.code.blocks.getD s.top.blk.toNat default).ins.getD s.top.at_.toNat default).i.op), (iI ((s.top.code.blocks.getD s.top.blk.toNat default).ins.getD s.top.at_.toNat default).i.a), (iI ((s.top.code.blocks.getD s.top.blk.toNat default).ins.getD s.top.at_.toNat default).i.b), (iI ((s.top.code.blocks.getD s.top.blk.toNat default).ins.getD s.top.at_.toNat default).i.c), (iI ((s.top.code.blocks.getD s.top.blk.toNat default).ins.getD s.top.at_.toNat default).i.n), (.slice g2 ((s.top.code.blocks.getD s.top.blk.toNat default).ins.getD s.top.at_.toNat default).args.length g9)]⟩)) (id := .l (sB (.slice e6 (s.top.code.blocks.getD s.top.blk.toNat default).ins.length gn))) (iQ (i := 0) rfl rfl rfl n5 rfl rfl rfl) rfl rfl (bj rfl) (⟨.inl rfl, ⟨.inl rfl, ⟨.inl rfl, ⟨.inl rfl, ⟨.inl rfl, ⟨.inl rfl, ⟨.inl rfl, trivial⟩⟩⟩⟩⟩⟩⟩) ?_
  refine dV (id := .a) (bY a7.log0 rfl) rfl rfl (fun _ _ _ _ => iK rfl rfl rfl) (⟨.inr trivial, ⟨.inr trivial, ⟨.inr trivial, ⟨.inr trivial, ⟨.inr trivial, ⟨.inr trivial, ⟨.inr trivial, ⟨.inr trivial, trivial⟩⟩⟩⟩⟩⟩⟩⟩) ?_
  rintro _ oL _ ⟨em, rfl, f1, _⟩ ow l7
  replace f1 := HS.lg f1 a7 l7
  generalize ({ oL with log := ow } : Heap) = qg at f1 ⊢
  have f1 : HS _ _ _ [_, _, _, _, _, _, _, _, _, [(em, .cells [(iI 0), (iI 0), (iI 0), (iI 0), (iI 0), (.slice none 0 0)] none false)]] _ := f1
  refine iT (id := .x [em]) (aC (q := 9) f1.log0 rfl rfl rfl rfl rfl rfl rfl rfl rfl) rfl (by rintro _ _ _ ⟨_, hwr⟩; exact d6 rfl rfl (Wr.did hwr)) (⟨.inl rfl, ⟨.inl rfl, ⟨.inl rfl, ⟨.inl rfl, ⟨.inl rfl, ⟨.inl rfl, ⟨.inl rfl, ⟨.inl rfl, ⟨.inl rfl, trivial⟩⟩⟩⟩⟩⟩⟩⟩⟩) ?_
  rintro _ oM _ ⟨f2, _⟩ ox l8
  replace f2 := HS.lg f2 f1 l8
  generalize ({ oM with log := ox } : Heap) = qh at f2 ⊢
  let A : Fp := [(em, .cells [(iI ((s.top.code.blocks.getD s.top.blk.toNat default).ins.getD s.top.at_.toNat default).i.op), (iI ((s.top.code.blocks.getD s.top.blk.toNat default).ins.getD s.top.at_.toNat default).i.a), (iI ((s.top.code.blocks.getD s.top.blk.toNat default).ins.getD s.top.at_.toNat default).i.b), (iI ((s.top.code.blocks.getD s.top.blk.toNat default).ins.getD s.top.at_.toNat default).i.c), (iI ((s.top.code.blocks.getD s.top.blk.toNat default).ins.getD s.top.at_.toNat default).i.n), (.slice g2 ((s.top.code.blocks.getD s.top.blk.toNat default).ins.getD s.top.at_.toNat default).args.length g9)] none false)]
  have f2 : HS _ _ _ [_, _, _, _, _, _, _, _, _, A] _ := f2
  refine bX ?_
  refine aw 2 rfl ?_
  refine ah ?_
  refine wRo 7 0 [(3, .o (iI s.top.at_))] 50 56 [] [(54, (iI (s.top.at_ + 1))), (56, (.pointer (some ⟨bt.b, 6, none⟩)))] (vA (ql 3 6 (HS.hc f2 (i := 5) rfl) rfl rfl) (vA (vi (n := s.top.at_ + 1) (by first | omega | exact hgr _ | exact aj wf.rows _ | (dsimp only; omega))) trivial)) rfl fun _ => ?_
  refine aN (aC (q := 5) f2 rfl rfl rfl rfl rfl rfl rfl rfl rfl) rfl ?_
  rintro _ oN _ ⟨O, _⟩
  have O : HS _ _ _ [_, _, _, _, _, [(bt.b, .cells [(iI s.top.code.params), (iI s.top.code.regs), (.slice ba s.top.code.blocks.length bk), (.slice ra s.top.regs.length rk), (.slice aa s.top.args.length ak), (iI s.top.blk), (iI (s.top.at_ + 1)), (iI s.top.to_)] none false)], _, _, _, _] _ := O
  refine ao 2 rfl ?_
  refine wR 3 [(2, .o (iI ((s.top.code.blocks.getD s.top.blk.toNat default).ins.getD s.top.at_.toNat default).i.op))] 57 59 [] [(59, (iI ((s.top.code.blocks.getD s.top.blk.toNat default).ins.getD s.top.at_.toNat default).i.op))] (vA (ql 3 0 (HS.hc O (i := 9) rfl) rfl rfl) trivial) rfl fun _ => ?_
  refine wR 1 [] 65 66 [] [(65, (.bool (((s.top.code.blocks.getD s.top.blk.toNat default).ins.getD s.top.at_.toNat default).i.op == 3)))] trivial rfl fun _ => ?_
  refine au 2 1 (v := (((s.top.code.blocks.getD s.top.blk.toNat default).ins.getD s.top.at_.toNat default).i.op == 3)) rfl rfl rfl rfl (fun k0 => ?_) (fun k0 => ?_)
  ·
   try simp only [BS] at k0
   refine wR 1 [(3, .o (iI s.fuel))] 67 71 [] [(71, (.bool (s.fuel == 0)))] (vA (ql 3 3 (HS.hc O (i := 0) rfl) rfl rfl) trivial) rfl fun _ => ?_
   refine au 1 1 (v := (s.fuel == 0)) rfl rfl rfl rfl (fun k3 => ?_) (fun k3 => ?_)
   ·
    try simp only [BS] at k3
    refine ah ?_
    refine wm (.pointer (some ⟨b, 0, none⟩)) rfl rfl rfl ?_
    refine aJ (ay rfl rfl rfl) rfl rfl (i8 ex (3) (0) (0) (HS.callOwn O (i := 0) rfl)) ?_
    rintro _ q4 ⟨hy, rfl⟩
    replace hy := HS.backOwn O (i := 0) rfl rfl (fun _ hb => hb) hy
    have hy : HS _ _ _ [[(b, .cells [(.slice la P.length lk), (.slice ca hd.length ck), (.slice pa (ps ++ [bt]).length pk), (iI s.fuel), (.bool true), (iI 3), (iI 0), (.slice oa s.out.length ok), (iI 0)] none false)], pc, pr, pp, pl, [(bt.b, .cells [(iI s.top.code.params), (iI s.top.code.regs), (.slice ba s.top.code.blocks.length bk), (.slice ra s.top.regs.length rk), (.slice aa s.top.args.length ak), (iI s.top.blk), (iI (s.top.at_ + 1)), (iI s.top.to_)] none false)], pg, po, I, A] _ := hy
    refine ao 1 rfl ?_
    exact am ⟨.inr rfl, _, rfl, rfl, RunP.mk (bt := bt) (L := [I, A]) (by unfold bD; dsimp only [el, e9, b8]; (repeat (first | rw [if_pos (by omega)] | rw [if_neg (by omega)] | rw [if_pos hlow] | rw [if_neg hlow] | (unfold cr; dsimp only [goT, az]) | (unfold fD; dsimp only [az]) | (unfold fe; dsimp only [cv, az]) | (unfold fb; dsimp only [cv, az]) | (unfold cu; dsimp only [az]))); first | done | rfl | rw [hmap]) hy fR T y2 y3 y4 V (by first | exact hgr _ | exact ⟨by decide, by decide⟩ | omega) U x2 Z⟩
   ·
    try simp only [BS] at k3
    refine ah ?_
    refine wRo 7 0 [(3, .o (iI s.fuel))] 74 80 [] [(78, (iI (s.fuel - 1))), (80, (.pointer (some ⟨b, 3, none⟩)))] (vA (ql 3 3 (HS.hc O (i := 0) rfl) rfl rfl) (vA (vi (n := s.fuel - 1) (by first | omega | exact hgr _ | exact aj wf.rows _ | (dsimp only; omega))) trivial)) rfl fun _ => ?_
    refine aN (aC (q := 0) O rfl rfl rfl rfl rfl rfl rfl rfl rfl) rfl ?_
    rintro _ q5 _ ⟨km, _⟩
    have km : HS _ _ _ [[(b, .cells [(.slice la P.length lk), (.slice ca hd.length ck), (.slice pa (ps ++ [bt]).length pk), (iI (s.fuel - 1)), (.bool s.over), (iI s.kind), (iI s.code), (.slice oa s.out.length ok), (iI s.val)] none false)], _, _, _, _, _, _, _, _, _] _ := km
    refine ao 1 rfl ?_
    exact aA ⟨.inl rfl, _, rfl, rfl, RunP.mk (bt := bt) (L := [I, A]) (by unfold bD; dsimp only [el, e9, b8]; (repeat (first | rw [if_pos (by omega)] | rw [if_neg (by omega)] | rw [if_pos hlow] | rw [if_neg hlow] | (unfold cr; dsimp only [goT, az]) | (unfold fD; dsimp only [az]) | (unfold fe; dsimp only [cv, az]) | (unfold fb; dsimp only [cv, az]) | (unfold cu; dsimp only [az]))); first | done | rfl | rw [hmap]) km fR T y2 y3 y4 V y7 U x2 Z⟩
  ·
   try simp only [BS] at k0
   refine wR 1 [] 81 82 [] [(81, (.bool (((s.top.code.blocks.getD s.top.blk.toNat default).ins.getD s.top.at_.toNat default).i.op == 6)))] trivial rfl fun _ => ?_
   refine au 1 1 (v := (((s.top.code.blocks.getD s.top.blk.toNat default).ins.getD s.top.at_.toNat default).i.op == 6)) rfl rfl rfl rfl (fun k4 => ?_) (fun k4 => ?_)
   ·
    try simp only [BS] at k4
    have qD := hiC (by omega)
    refine aP rfl ?_
    refine fm (.pointer (some ⟨b, 0, none⟩)) rfl rfl rfl ?_
    refine ai (v := (.pointer (some ⟨b, 0, none⟩))) (id := .v) (bN rfl) rfl rfl (aG rfl) (aF _) ?_
    refine ai (v := (.pointer (some ⟨b, 0, none⟩))) (id := .v) (aZ rfl rfl) rfl rfl (aG rfl) (aF _) ?_
    refine ai (v := (.slice la P.length lk)) (id := .l b) (aT (i := 0) rfl rfl (HS.hc O.log0 (i := 0) rfl) rfl rfl) rfl rfl (bj rfl) (⟨.inl rfl, ⟨.inl rfl, ⟨.inl rfl, trivial⟩⟩⟩) ?_
    refine ai (v := (.pointer (some ⟨em, 0, none⟩))) (id := .v) (aZ rfl rfl) rfl rfl (aG rfl) (aF _) ?_
    refine ai (v := (.pointer (some ⟨em, 4, none⟩))) (id := .v) (aZ rfl rfl) rfl rfl (aG rfl) (aF _) ?_
    refine ai (v := (iI ((s.top.code.blocks.getD s.top.blk.toNat default).ins.getD s.top.at_.toNat default).i.n)) (id := .l em) (aT (i := 4) rfl rfl (HS.hc O.log0 (i := 9) rfl) rfl rfl) rfl rfl (bj rfl) (⟨.inl rfl, ⟨.inl rfl, ⟨.inr trivial, ⟨.inr trivial, ⟨.inr trivial, ⟨.inr trivial, trivial⟩⟩⟩⟩⟩⟩) ?_
    refine ai (v := (.pointer (some ⟨sB (.slice la P.length lk), sO (.slice la P.length lk) + ((s.top.code.blocks.getD s.top.blk.toNat default).ins.getD s.top.at_.toNat default).i.n.toNat * Rp.sz VFnT, none⟩))) (id := .v) (dX (α := VFnT) (j := ((s.top.code.blocks.getD s.top.blk.toNat default).ins.getD s.top.at_.toNat default).i.n) rfl rfl rfl rfl (SR.sv hP O.log0) (by first | omega | exact hgr _ | exact aj wf.rows _ | (dsimp only; omega)) (by first | omega | exact hgr _ | exact aj wf.rows _ | (dsimp only; omega))) rfl rfl (aG rfl) (aF _) ?_
    obtain ⟨qx, oh, n6⟩ := Sv.at (SR.sv hP O.log0) (cN (x := default) (show ((s.top.code.blocks.getD s.top.blk.toNat default).ins.getD s.top.at_.toNat default).i.n.toNat < P.length from by first | omega | exact hgr _ | exact aj wf.rows _ | (dsimp only; omega)))
    obtain ⟨ds, ei, rfl, pP, pQ, he⟩ := oh
    refine ai (v := (.agg ⟨[(iI (P.getD ((s.top.code.blocks.getD s.top.blk.toNat default).ins.getD s.top.at_.toNat default).i.n.toNat default).params), (iI (P.getD ((s.top.code.blocks.getD s.top.blk.toNat default).ins.getD s.top.at_.toNat default).i.n.toNat default).regs), (.slice ds (P.getD ((s.top.code.blocks.getD s.top.blk.toNat default).ins.getD s.top.at_.toNat default).i.n.toNat default).blocks.length ei)]⟩)) (id := .l (sB (.slice la P.length lk))) (iQ (i := 0) rfl rfl rfl n6 rfl rfl rfl) rfl rfl (bj rfl) (⟨.inl rfl, ⟨.inl rfl, ⟨.inl rfl, ⟨.inl rfl, ⟨.inl rfl, ⟨.inl rfl, ⟨.inl rfl, ⟨.inl rfl, trivial⟩⟩⟩⟩⟩⟩⟩⟩) ?_
    refine ai (v := (.pointer (some ⟨em, 0, none⟩))) (id := .v) (aZ rfl rfl) rfl rfl (aG rfl) (aF _) ?_
    refine ai (v := (.pointer (some ⟨em, 1, none⟩))) (id := .v) (aZ rfl rfl) rfl rfl (aG rfl) (aF _) ?_
    refine ai (v := (iI ((s.top.code.blocks.getD s.top.blk.toNat default).ins.getD s.top.at_.toNat default).i.a)) (id := .l em) (aT (i := 1) rfl rfl (HS.hc O.log0 (i := 9) rfl) rfl rfl) rfl rfl (bj rfl) (⟨.inl rfl, ⟨.inl rfl, ⟨.inr trivial, ⟨.inr trivial, ⟨.inr trivial, ⟨.inr trivial, ⟨.inr trivial, ⟨.inr trivial, ⟨.inr trivial, ⟨.inr trivial, ⟨.inr trivial, trivial⟩⟩⟩⟩⟩⟩⟩⟩⟩⟩⟩) ?_
    refine ai (v := (.agg ⟨[(iI (P.getD ((s.top.code.blocks.getD s.top.blk.toNat default).ins.getD s.top.at_.toNat default).i.n.toNat default).params), (iI (P.getD ((s.top.code.blocks.getD s.top.blk.toNat default).ins.getD s.top.at_.toNat default).i.n.toNat default).regs), (.slice ds (P.getD ((s.top.code.blocks.getD s.top.blk.toNat default).ins.getD s.top.at_.toNat default).i.n.toNat default).blocks.length ei), (.slice none 0 0), (.slice none 0 0), (iI 0), (iI 0), (iI ((s.top.code.blocks.getD s.top.blk.toNat default).ins.getD s.top.at_.toNat default).i.a)]⟩)) (id := .v) (ap_bld rfl rfl (by kernel_rfl)) rfl rfl (aG rfl) (aF _) ?_
    refine dV (id := .a) (dQ O.log0 rfl rfl) rfl rfl (fun _ _ _ _ => iK rfl rfl rfl) (⟨.inl rfl, ⟨.inl rfl, ⟨.inl rfl, ⟨.inl rfl, ⟨.inl rfl, ⟨.inl rfl, ⟨.inl rfl, ⟨.inl rfl, ⟨.inl rfl, ⟨.inl rfl, ⟨.inl rfl, ⟨.inl rfl, ⟨.inl rfl, trivial⟩⟩⟩⟩⟩⟩⟩⟩⟩⟩⟩⟩⟩) ?_
    rintro _ oO _ ⟨a5, rfl, f6, _⟩ oy l9
    replace f6 := HS.lg f6 O l9
    generalize ({ oO with log := oy } : Heap) = qk at f6 ⊢
    have f6 : HS _ _ _ [_, _, _, _, _, _, _, _, _, _, [(a5, .cells [(iI (P.getD ((s.top.code.blocks.getD s.top.blk.toNat default).ins.getD s.top.at_.toNat default).i.n.toNat default).params), (iI (P.getD ((s.top.code.blocks.getD s.top.blk.toNat default).ins.getD s.top.at_.toNat default).i.n.toNat default).regs), (.slice ds (P.getD ((s.top.code.blocks.getD s.top.blk.toNat default).ins.getD s.top.at_.toNat default).i.n.toNat default).blocks.length ei), (.slice none 0 0), (.slice none 0 0), (iI 0), (iI 0), (iI ((s.top.code.blocks.getD s.top.blk.toNat default).ins.getD s.top.at_.toNat default).i.a)] none false)]] _ := f6
    refine fa (.pointer (some ⟨a5, 0, none⟩)) rfl rfl rfl ?_
    refine bX ?_
    refine aw 3 rfl ?_
    refine wR 2 [(1, .o (.slice g2 ((s.top.code.blocks.getD s.top.blk.toNat default).ins.getD s.top.at_.toNat default).args.length g9))] 97 100 [] [(98, (.slice g2 ((s.top.code.blocks.getD s.top.blk.toNat default).ins.getD s.top.at_.toNat default).args.length g9)), (99, (iI (((s.top.code.blocks.getD s.top.blk.toNat default).ins.getD s.top.at_.toNat default).args.length : Int))), (100, (iI 0))] (vA (ql 25 5 (HS.hc f6 (i := 9) rfl) rfl rfl) trivial) rfl fun _ => ?_
    have kn := HS.snoc f6
    have kn : HS _ _ _ [_, _, _, _, _, _, _, _, _, _, _, []] _ := kn
    refine aL (fun (mm : Nat) f H' => ∃ (ag : List Int) (j : Nat) (a4 : Fp) (a2 : Option Addr) (a3 : Nat) (F' : Fz), Fz.le F F' ∧ HS (Base.of H (b :: q.map Prod.fst)) F' H' [es, pc, pr, pp, pl, [(bt.b, .cells [(iI s.top.code.params), (iI s.top.code.regs), (.slice ba s.top.code.blocks.length bk), (.slice ra s.top.regs.length rk), (.slice aa s.top.args.length ak), (iI s.top.blk), (iI (s.top.at_ + 1)), (iI s.top.to_)] none false)], pg, po, I, A, [(a5, .cells [(iI (P.getD ((s.top.code.blocks.getD s.top.blk.toNat default).ins.getD s.top.at_.toNat default).i.n.toNat default).params), (iI (P.getD ((s.top.code.blocks.getD s.top.blk.toNat default).ins.getD s.top.at_.toNat default).i.n.toNat default).regs), (.slice ds (P.getD ((s.top.code.blocks.getD s.top.blk.toNat default).ins.getD s.top.at_.toNat default).i.n.toNat default).blocks.length ei), (.slice none 0 0), (.slice a2 ag.length a3), (iI 0), (iI 0), (iI ((s.top.code.blocks.getD s.top.blk.toNat default).ins.getD s.top.at_.toNat default).i.a)] none false)], a4] R ∧ OS F' (.slice a2 ag.length a3) ag a4 ∧ bc f [(0, (.pointer (some ⟨b, 0, none⟩))), (2, (.pointer (some ⟨bt.b, 0, none⟩))), (5, (.pointer (some ⟨a5, 0, none⟩))), (98, (.slice g2 ((s.top.code.blocks.getD s.top.blk.toNat default).ins.getD s.top.at_.toNat default).args.length g9)), (99, (iI (((s.top.code.blocks.getD s.top.blk.toNat default).ins.getD s.top.at_.toNat default).args.length : Int))), (100, (iI (j : Int)))] ∧ mm = ((s.top.code.blocks.getD s.top.blk.toNat default).ins.getD s.top.at_.toNat default).args.length - j ∧ (ag = (((s.top.code.blocks.getD s.top.blk.toNat default).ins.getD s.top.at_.toNat default).args.take j).map (bC s.top.regs)) ∧ (j ≤ ((s.top.code.blocks.getD s.top.blk.toNat default).ins.getD s.top.at_.toNat default).args.length)) _ ⟨([] : List Int), 0, [], none, 0, _, fR, kn, (OS.nil : OS F (.slice none 0 0) ([] : List Int) []), (agC rfl (agC rfl (agC rfl (agC rfl (agC rfl (agC rfl agN)))))), rfl, (by rfl), (by first | assumption | omega | (simp at *; omega))⟩ ?_
    rintro qH rl oP ⟨ag, j, a4, a2, a3, qT, bb, eb, ha, k7, rfl, e, hj⟩ ol
    refine aO _ k7 (fun _ => ?_)
    clear k7
    replace ht := ht.mono bb
    replace he := he.mono bb
    replace U := U.mono bb
    replace x2 := x2.mono bb
    replace Z := Z.mono bb
    replace T := T.mono bb
    replace y3 := y3.mono bb
    replace V := V.mono bb
    replace y2 := SF.mono bb y2
    replace y4 := FAM.mono (fun k => CR.mono bb k) y4
    have hag : ag.length ≤ 6 := by rw [e, List.length_map, List.length_take]; omega
    have hga := hI.arg j
    refine aw 1 rfl ?_
    refine wR 2 [] 101 101 [] [(101, (.bool (decide ((j : Int) < (((s.top.code.blocks.getD s.top.blk.toNat default).ins.getD s.top.at_.toNat default).args.length : Int)))))] trivial rfl fun _ => ?_
    refine au 4 4 (v := (decide ((j : Int) < (((s.top.code.blocks.getD s.top.blk.toNat default).ins.getD s.top.at_.toNat default).args.length : Int)))) rfl rfl rfl rfl (fun k5 => ?_) (fun k5 => ?_)
    ·
     try simp only [BS] at k5
     obtain ⟨qu, lD⟩ := Sv.view (SR.sv ht eb)
     have rp := fI (lD j)
     refine wR 1 [(1, .o (iI (((s.top.code.blocks.getD s.top.blk.toNat default).ins.getD s.top.at_.toNat default).args.getD j 0)))] 102 103 [7] [(7, (iI (((s.top.code.blocks.getD s.top.blk.toNat default).ins.getD s.top.at_.toNat default).args.getD j 0)))] (vA (Sv.ix (j := (j : Int)) (SR.sv ht eb) (by first | omega | exact hgr _ | exact aj wf.rows _ | (dsimp only; omega)) (by first | omega | exact hgr _ | exact aj wf.rows _ | (dsimp only; omega))) (vA (ql 3 0 (vI (lD j) (by first | omega | exact hgr _ | exact aj wf.rows _ | (dsimp only; omega))) rfl rfl) trivial)) rfl fun _ => ?_
     refine aP rfl ?_
     refine fm (.pointer (some ⟨a5, 0, none⟩)) rfl rfl rfl ?_
     refine fm (.pointer (some ⟨a5, 0, none⟩)) rfl rfl rfl ?_
     refine ai (v := (.pointer (some ⟨a5, 0, none⟩))) (id := .v) (bN rfl) rfl rfl (aG rfl) (aF _) ?_
     refine ai (v := (.pointer (some ⟨a5, 4, none⟩))) (id := .v) (aZ rfl rfl) rfl rfl (aG rfl) (aF _) ?_
     refine ai (v := (.slice a2 ag.length a3)) (id := .l a5) (aT (i := 4) rfl rfl (HS.hc eb.log0 (i := 10) rfl) rfl rfl) rfl rfl (bj rfl) (⟨.inl rfl, ⟨.inl rfl, ⟨.inl rfl, ⟨.inr trivial, trivial⟩⟩⟩⟩) ?_
     refine fm (.pointer (some ⟨bt.b, 0, none⟩)) rfl rfl rfl ?_
     refine fm (iI (((s.top.code.blocks.getD s.top.blk.toNat default).ins.getD s.top.at_.toNat default).args.getD j 0)) rfl rfl rfl ?_
     refine aY (W := []) (ay rfl rfl rfl) rfl rfl rfl (ic.iX ex s.top.regs (((s.top.code.blocks.getD s.top.blk.toNat default).ins.getD s.top.at_.toNat default).args.getD j 0) _ (HS.hc eb.log0 (i := 5) rfl) (OS.sv x2 eb.log0 (i := 6) rfl) (by first | omega | exact hgr _ | exact aj wf.rows _ | (dsimp only; omega)) (by first | omega | exact hgr _ | exact aj wf.rows _ | (dsimp only; omega))) (⟨.inl rfl, ⟨.inl rfl, ⟨.inr List.not_mem_nil, ⟨.inr trivial, ⟨.inr trivial, ⟨.inr trivial, ⟨.inr trivial, trivial⟩⟩⟩⟩⟩⟩⟩) ?_
     rintro _ _ ⟨rv, rfl, rfl, rfl⟩
     refine ⟨fun b hb => absurd hb List.not_mem_nil, fun oz ma => ?_⟩
     have ko := HS.lg eb.log0 eb ma
     generalize ({ { oP with log := [] } with log := oz } : Heap) = qm at ko ⊢
     refine dV (id := .a) (cS (α := Int) (ps := [(0, (iI (bC s.top.regs (((s.top.code.blocks.getD s.top.blk.toNat default).ins.getD s.top.at_.toNat default).args.getD j 0))))]) (cells := [(iI (bC s.top.regs (((s.top.code.blocks.getD s.top.blk.toNat default).ins.getD s.top.at_.toNat default).args.getD j 0)))]) ([bC s.top.regs (((s.top.code.blocks.getD s.top.blk.toNat default).ins.getD s.top.at_.toNat default).args.getD j 0)] : List Int) ko.log0 rfl rfl rfl (by kernel_rfl) ⟨[(iI (bC s.top.regs (((s.top.code.blocks.getD s.top.blk.toNat default).ins.getD s.top.at_.toNat default).args.getD j 0)))], [], rfl, ⟨rfl, by first | omega | exact hgr _ | exact aj wf.rows _ | (dsimp only; omega)⟩, rfl⟩ rfl) rfl rfl (fun _ _ _ _ => iK rfl rfl rfl) (⟨.inl rfl, ⟨.inl rfl, ⟨.inl rfl, ⟨.inr trivial, ⟨.inr trivial, ⟨.inr trivial, ⟨.inr trivial, ⟨.inr trivial, trivial⟩⟩⟩⟩⟩⟩⟩⟩) ?_
     rintro _ oQ o4 ⟨re, rr, rfl, n9, e0, _⟩ oA mb
     replace e0 := HS.lg e0 ko mb
     generalize ({ oQ with log := oA } : Heap) = qo at e0 ⊢
     have e0 : HS _ _ _ [_, _, _, _, _, _, _, _, _, _, [(a5, .cells [(iI (P.getD ((s.top.code.blocks.getD s.top.blk.toNat default).ins.getD s.top.at_.toNat default).i.n.toNat default).params), (iI (P.getD ((s.top.code.blocks.getD s.top.blk.toNat default).ins.getD s.top.at_.toNat default).i.n.toNat default).regs), (.slice ds (P.getD ((s.top.code.blocks.getD s.top.blk.toNat default).ins.getD s.top.at_.toNat default).i.n.toNat default).blocks.length ei), (.slice none 0 0), (.slice a2 ag.length a3), (iI 0), (iI 0), (iI ((s.top.code.blocks.getD s.top.blk.toNat default).ins.getD s.top.at_.toNat default).i.a)] none false)], a4, o4] _ := e0
     refine dV (id := .x (a4.map Prod.fst)) (d3 (α := Int) (q := 11) ha e0.log0 rfl rfl rfl (OS.sv n9 e0.log0 (i := 12) rfl) rfl rfl rfl rfl rfl rfl rfl (by first | omega | (simp only [List.length_cons, List.length_nil]; omega))) rfl rfl (by rintro _ _ lH ⟨kS, lF, rfl, lC, _, hwr⟩; exact d6 rfl rfl (Wr.did hwr)) (⟨.inl rfl, ⟨.inl rfl, ⟨.inl rfl, ⟨.inl rfl, ⟨.inl rfl, ⟨.inl rfl, ⟨.inl rfl, ⟨.inl rfl, ⟨.inr trivial, trivial⟩⟩⟩⟩⟩⟩⟩⟩⟩) ?_
     rintro _ oR lH ⟨kS, lF, rfl, lC, f9, _⟩ oB mc
     replace f9 := HS.lg f9 e0 mc
     generalize ({ oR with log := oB } : Heap) = qp at f9 ⊢
     have f9 : HS _ _ _ [_, _, _, _, _, _, _, _, _, _, _, lH, _] _ := f9
     refine ai (v := (.pointer (some ⟨a5, 0, none⟩))) (id := .v) (bN rfl) rfl rfl (aG rfl) (aF _) ?_
     refine ai (v := (.pointer (some ⟨a5, 4, none⟩))) (id := .v) (aZ rfl rfl) rfl rfl (aG rfl) (aF _) ?_
     refine iT (id := .x [a5]) (aC (q := 10) f9.log0 rfl rfl rfl rfl rfl rfl rfl rfl rfl) rfl (by rintro _ _ _ ⟨_, hwr⟩; exact d6 rfl rfl (Wr.did hwr)) (⟨.inl rfl, ⟨.inl rfl, ⟨.inl rfl, ⟨.inl rfl, ⟨.inl rfl, ⟨.inl rfl, ⟨.inl rfl, ⟨.inl rfl, ⟨.inl rfl, ⟨.inl rfl, ⟨.inl rfl, ⟨.inl rfl, trivial⟩⟩⟩⟩⟩⟩⟩⟩⟩⟩⟩⟩) ?_
     rintro _ oS _ ⟨hg, _⟩ oC md
     replace hg := HS.lg hg f9 md
     generalize ({ oS with log := oC } : Heap) = qq at hg ⊢
     have hg : HS _ _ _ [_, _, _, _, _, _, _, _, _, _, [(a5, .cells [(iI (P.getD ((s.top.code.blocks.getD s.top.blk.toNat default).ins.getD s.top.at_.toNat default).i.n.toNat default).params), (iI (P.getD ((s.top.code.blocks.getD s.top.blk.toNat default).ins.getD s.top.at_.toNat default).i.n.toNat default).regs), (.slice ds (P.getD ((s.top.code.blocks.getD s.top.blk.toNat default).ins.getD s.top.at_.toNat default).i.n.toNat default).blocks.length ei), (.slice none 0 0), (.slice kS (ag ++ ([bC s.top.regs (((s.top.code.blocks.getD s.top.blk.toNat default).ins.getD s.top.at_.toNat default).args.getD j 0)] : List Int)).length lF), (iI 0), (iI 0), (iI ((s.top.code.blocks.getD s.top.blk.toNat default).ins.getD s.top.at_.toNat default).i.a)] none false)], _, _] _ := hg
     refine bX ?_
     refine aw 2 rfl ?_
     refine wR 1 [] 100 100 [116] [(100, (iI ((j : Int) + 1)))] (vA (vi (n := (j : Int) + 1) (by first | omega | exact hgr _ | exact aj wf.rows _ | (dsimp only; omega))) trivial) rfl fun _ => ?_
     refine ol _ _ _ ?_ ⟨ag ++ ([bC s.top.regs (((s.top.code.blocks.getD s.top.blk.toNat default).ins.getD s.top.at_.toNat default).args.getD j 0)] : List Int), j + 1, lH, kS, lF, _, (bb), (HS.sub hg (List.sublist_append_left _ _)), lC, (agC rfl (agC rfl (agC rfl (agC rfl (agC rfl (agC rfl agN)))))), rfl, (by exact map_step e (by omega)), (by first | assumption | omega | (simp at *; omega))⟩
     omega
    ·
     try simp only [BS] at k5
     have hmap := map_all e (by omega)
     refine ah ?_
     refine wRo 6 0 [(4, .o (.slice pa (ps ++ [bt]).length pk))] 117 122 [] [(117, (.pointer (some ⟨b, 0, none⟩))), (121, (.slice pa (ps ++ [bt]).length pk)), (122, (.pointer (some ⟨a5, 0, none⟩)))] (vA (ql 110 2 (HS.hc eb (i := 0) rfl) rfl rfl) trivial) rfl fun _ => ?_
     refine bf (cS (α := PtrT) (ps := [(0, (.pointer (some ⟨a5, 0, none⟩)))]) (cells := [(.pointer (some ⟨a5, 0, none⟩))]) ([(⟨a5⟩ : PtrT)] : List PtrT) eb rfl rfl rfl (by kernel_rfl) ⟨[(.pointer (some ⟨a5, 0, none⟩))], [], rfl, rfl, rfl⟩ rfl) rfl rfl ?_
     rintro _ q8 kN ⟨rf, rt, rfl, ob, hW, _⟩
     let kw : Fp := [(a5, .cells [(iI (P.getD ((s.top.code.blocks.getD s.top.blk.toNat default).ins.getD s.top.at_.toNat default).i.n.toNat default).params), (iI (P.getD ((s.top.code.blocks.getD s.top.blk.toNat default).ins.getD s.top.at_.toNat default).i.n.toNat default).regs), (.slice ds (P.getD ((s.top.code.blocks.getD s.top.blk.toNat default).ins.getD s.top.at_.toNat default).i.n.toNat default).blocks.length ei), (.slice none 0 0), (.slice a2 ag.length a3), (iI 0), (iI 0), (iI ((s.top.code.blocks.getD s.top.blk.toNat default).ins.getD s.top.at_.toNat default).i.a)] none false)]
     have hW : HS _ _ _ [_, _, _, _, _, _, _, _, _, _, kw, a4, kN] _ := hW
     refine bf (d3 (α := PtrT) (q := 3) y3 hW rfl rfl rfl (OS.sv ob hW (i := 12) rfl) rfl rfl rfl rfl rfl rfl rfl (by first | omega | (simp only [List.length_append, List.length_cons, List.length_nil]; omega))) rfl rfl ?_
     rintro _ q9 lI ⟨oT, o1, rfl, jc, kp, _⟩
     have kp : HS _ _ _ [_, _, _, lI, _, _, _, _, _, _, _, _, _] _ := kp
     refine wRo 2 8 [] 125 126 [] [(126, (.pointer (some ⟨b, 2, none⟩)))] trivial rfl fun _ => ?_
     refine aN (aC (q := 0) kp rfl rfl rfl rfl rfl rfl rfl rfl rfl) rfl ?_
     rintro _ rc _ ⟨kr, _⟩
     let kx : Fp := [(b, .cells [(.slice la P.length lk), (.slice ca hd.length ck), (.slice oT ((ps ++ [bt]) ++ ([(⟨a5⟩ : PtrT)] : List PtrT)).length o1), (iI s.fuel), (.bool s.over), (iI s.kind), (iI s.code), (.slice oa s.out.length ok), (iI s.val)] none false)]
     have kr : HS _ _ _ [kx, _, _, _, _, _, _, _, _, _, _, _, _] _ := kr
     refine ao 1 rfl ?_
     obtain ⟨qU, dl, kt, oi, qE⟩ := OS.frz ha kr (i := 11) rfl
     have kt : HS _ _ _ [_, _, _, _, _, _, _, _, _, _, _, [], _] _ := kt
     replace jc := jc.mono dl
     replace he := he.mono dl
     replace U := U.mono dl
     replace x2 := x2.mono dl
     replace Z := Z.mono dl
     replace T := T.mono dl
     replace V := V.mono dl
     replace y2 := SF.mono dl y2
     replace y4 := FAM.mono (fun k => CR.mono dl k) y4
     obtain ⟨kO, qs, hX, mf⟩ := pool_push (⟨⟨s.top.code.params, s.top.code.regs, s.top.code.blocks⟩, s.top.regs, s.top.args, s.top.blk, (s.top.at_ + 1), s.top.to_⟩ : CalT) y4 kt rfl rfl rfl U x2 Z
     have hX : HS _ _ _ [kx, pc, pr, lI, kO, [], [], po, I, A, kw, [], kN] _ := hX
     have mw : HS _ _ _ [kx, pc, pr, lI, kO, kw, [], po, [], I, A, [], kN] _ := HS.flat hX (permIdx [0, 1, 2, 3, 4, 10, 6, 7, 5, 8, 9, 11, 12] rfl (show List.Perm [0, 1, 2, 3, 4, 10, 6, 7, 5, 8, 9, 11, 12] (List.range 13) by decide))
     exact aA ⟨.inl rfl, _, rfl, rfl, RunP.mk (bt := ⟨a5⟩) (L := [[], I, A, [], kN]) (by unfold bD; dsimp only [el, e9, b8]; (repeat (first | rw [if_pos (by omega)] | rw [if_neg (by omega)] | rw [if_pos hlow] | rw [if_neg hlow] | (unfold cr; dsimp only [goT, az]) | (unfold fD; dsimp only [az]) | (unfold fe; dsimp only [cv, az]) | (unfold fb; dsimp only [cv, az]) | (unfold cu; dsimp only [az]))); first | done | rfl | rw [hmap]) mw (fT (bb) dl) T y2 jc mf V y7 he OS.nil oi⟩
   ·
    try simp only [BS] at k4
    refine wR 1 [] 127 128 [] [(127, (.bool (((s.top.code.blocks.getD s.top.blk.toNat default).ins.getD s.top.at_.toNat default).i.op == 9)))] trivial rfl fun _ => ?_
    refine au 0 2 (v := (((s.top.code.blocks.getD s.top.blk.toNat default).ins.getD s.top.at_.toNat default).i.op == 9)) rfl rfl rfl rfl (fun k6 => ?_) (fun k6 => ?_)
    ·
     try simp only [BS] at k6
     refine aP rfl ?_
     refine fm (.pointer (some ⟨b, 0, none⟩)) rfl rfl rfl ?_
     refine fm (.pointer (some ⟨b, 0, none⟩)) rfl rfl rfl ?_
     refine ai (v := (.pointer (some ⟨b, 0, none⟩))) (id := .v) (bN rfl) rfl rfl (aG rfl) (aF _) ?_
     refine ai (v := (.pointer (some ⟨b, 5, none⟩))) (id := .v) (aZ rfl rfl) rfl rfl (aG rfl) (aF _) ?_
     refine ai (v := (.pointer (some ⟨b, 7, none⟩))) (id := .v) (aZ rfl rfl) rfl rfl (aG rfl) (aF _) ?_
     refine ai (v := (.slice oa s.out.length ok)) (id := .l b) (aT (i := 7) rfl rfl (HS.hc O.log0 (i := 0) rfl) rfl rfl) rfl rfl (bj rfl) (⟨.inl rfl, ⟨.inl rfl, ⟨.inl rfl, ⟨.inl rfl, ⟨.inr trivial, trivial⟩⟩⟩⟩⟩) ?_
     refine fm (.pointer (some ⟨bt.b, 0, none⟩)) rfl rfl rfl ?_
     refine ai (v := (.pointer (some ⟨em, 0, none⟩))) (id := .v) (aZ rfl rfl) rfl rfl (aG rfl) (aF _) ?_
     refine ai (v := (.pointer (some ⟨em, 1, none⟩))) (id := .v) (aZ rfl rfl) rfl rfl (aG rfl) (aF _) ?_
     refine ai (v := (iI ((s.top.code.blocks.getD s.top.blk.toNat default).ins.getD s.top.at_.toNat default).i.a)) (id := .l em) (aT (i := 1) rfl rfl (HS.hc O.log0 (i := 9) rfl) rfl rfl) rfl rfl (bj rfl) (⟨.inl rfl, ⟨.inl rfl, ⟨.inr trivial, ⟨.inr trivial, ⟨.inr trivial, ⟨.inr trivial, ⟨.inr trivial, ⟨.inr trivial, ⟨.inr trivial, trivial⟩⟩⟩⟩⟩⟩⟩⟩⟩) ?_
     refine aY (W := []) (ay rfl rfl rfl) rfl rfl rfl (ic.iX ex s.top.regs ((s.top.code.blocks.getD s.top.blk.toNat default).ins.getD s.top.at_.toNat default).i.a _ (HS.hc O.log0 (i := 5) rfl) (OS.sv x2 O.log0 (i := 6) rfl) (by first | omega | exact hgr _ | exact aj wf.rows _ | (dsimp only; omega)) (by first | omega | exact hgr _ | exact aj wf.rows _ | (dsimp only; omega))) (⟨.inl rfl, ⟨.inl rfl, ⟨.inl rfl, ⟨.inl rfl, ⟨.inr List.not_mem_nil, ⟨.inr trivial, ⟨.inr trivial, ⟨.inr trivial, ⟨.inr trivial, ⟨.inr trivial, trivial⟩⟩⟩⟩⟩⟩⟩⟩⟩⟩) ?_
     rintro _ _ ⟨rx, rfl, rfl, rfl⟩
     refine ⟨fun b hb => absurd hb List.not_mem_nil, fun oD me => ?_⟩
     have ku := HS.lg O.log0 O me
     generalize ({ { oN with log := [] } with log := oD } : Heap) = qr at ku ⊢
     refine dV (id := .a) (cS (α := Int) (ps := [(0, (iI (bC s.top.regs ((s.top.code.blocks.getD s.top.blk.toNat default).ins.getD s.top.at_.toNat default).i.a)))]) (cells := [(iI (bC s.top.regs ((s.top.code.blocks.getD s.top.blk.toNat default).ins.getD s.top.at_.toNat default).i.a))]) ([bC s.top.regs ((s.top.code.blocks.getD s.top.blk.toNat default).ins.getD s.top.at_.toNat default).i.a] : List Int) ku.log0 rfl rfl rfl (by kernel_rfl) ⟨[(iI (bC s.top.regs ((s.top.code.blocks.getD s.top.blk.toNat default).ins.getD s.top.at_.toNat default).i.a))], [], rfl, ⟨rfl, by first | omega | exact hgr _ | exact aj wf.rows _ | (dsimp only; omega)⟩, rfl⟩ rfl) rfl rfl (fun _ _ _ _ => iK rfl rfl rfl) (⟨.inl rfl, ⟨.inl rfl, ⟨.inl rfl, ⟨.inl rfl, ⟨.inl rfl, ⟨.inr trivial, ⟨.inr trivial, ⟨.inr trivial, ⟨.inr trivial, ⟨.inr trivial, ⟨.inr trivial, trivial⟩⟩⟩⟩⟩⟩⟩⟩⟩⟩⟩) ?_
     rintro _ nQ nM ⟨rg, ru, rfl, oc, dd, _⟩ mx k8
     replace dd := HS.lg dd ku k8
     generalize ({ nQ with log := mx } : Heap) = o6 at dd ⊢
     have dd : HS _ _ _ [_, _, _, _, _, _, _, _, _, _, nM] _ := dd
     refine dV (id := .x (po.map Prod.fst)) (d3 (α := Int) (q := 7) V dd.log0 rfl rfl rfl (OS.sv oc dd.log0 (i := 10) rfl) rfl rfl rfl rfl rfl rfl rfl (by first | omega | (simp only [List.length_cons, List.length_nil]; omega))) rfl rfl (by rintro _ _ lG ⟨kR, lE, rfl, kK, _, hwr⟩; exact d6 rfl rfl (Wr.did hwr)) (⟨.inl rfl, ⟨.inl rfl, ⟨.inl rfl, ⟨.inl rfl, ⟨.inl rfl, ⟨.inl rfl, ⟨.inl rfl, ⟨.inl rfl, ⟨.inl rfl, ⟨.inl rfl, ⟨.inl rfl, ⟨.inr trivial, trivial⟩⟩⟩⟩⟩⟩⟩⟩⟩⟩⟩⟩) ?_
     rintro _ nR lG ⟨kR, lE, rfl, kK, dt, _⟩ my k9
     replace dt := HS.lg dt dd k9
     generalize ({ nR with log := my } : Heap) = o7 at dt ⊢
     have dt : HS _ _ _ [_, _, _, _, _, _, _, lG, _, _, _] _ := dt
     refine ai (v := (.pointer (some ⟨b, 0, none⟩))) (id := .v) (bN rfl) rfl rfl (aG rfl) (aF _) ?_
     refine ai (v := (.pointer (some ⟨b, 5, none⟩))) (id := .v) (aZ rfl rfl) rfl rfl (aG rfl) (aF _) ?_
     refine ai (v := (.pointer (some ⟨b, 7, none⟩))) (id := .v) (aZ rfl rfl) rfl rfl (aG rfl) (aF _) ?_
     refine iT (id := .x [b]) (aC (q := 0) dt.log0 rfl rfl rfl rfl rfl rfl rfl rfl rfl) rfl (by rintro _ _ _ ⟨_, hwr⟩; exact d6 rfl rfl (Wr.did hwr)) (⟨.inl rfl, ⟨.inl rfl, ⟨.inl rfl, ⟨.inl rfl, ⟨.inl rfl, ⟨.inl rfl, ⟨.inl rfl, ⟨.inl rfl, ⟨.inl rfl, ⟨.inl rfl, ⟨.inl rfl, ⟨.inl rfl, ⟨.inl rfl, ⟨.inl rfl, ⟨.inl rfl, ⟨.inl rfl, trivial⟩⟩⟩⟩⟩⟩⟩⟩⟩⟩⟩⟩⟩⟩⟩⟩) ?_
     rintro _ nS _ ⟨e5, _⟩ mz lb
     replace e5 := HS.lg e5 dt lb
     generalize ({ nS with log := mz } : Heap) = o8 at e5 ⊢
     have e5 : HS _ _ _ [[(b, .cells [(.slice la P.length lk), (.slice ca hd.length ck), (.slice pa (ps ++ [bt]).length pk), (iI s.fuel), (.bool s.over), (iI s.kind), (iI s.code), (.slice kR (s.out ++ ([bC s.top.regs ((s.top.code.blocks.getD s.top.blk.toNat default).ins.getD s.top.at_.toNat default).i.a] : List Int)).length lE), (iI s.val)] none false)], _, _, _, _, _, _, _, _, _, _] _ := e5
     refine bX ?_
     refine aw 1 rfl ?_
     exact aA ⟨.inl rfl, _, rfl, rfl, RunP.mk (bt := bt) (L := [I, A, nM]) (by unfold bD; dsimp only [el, e9, b8]; (repeat (first | rw [if_pos (by omega)] | rw [if_neg (by omega)] | rw [if_pos hlow] | rw [if_neg hlow] | (unfold cr; dsimp only [goT, az]) | (unfold fD; dsimp only [az]) | (unfold fe; dsimp only [cv, az]) | (unfold fb; dsimp only [cv, az]) | (unfold cu; dsimp only [az]))); first | done | rfl | rw [hmap]) e5 fR T y2 y3 y4 kK y7 U x2 Z⟩
    ·
     try simp only [BS] at k6
     refine wR 1 [] 145 146 [] [(145, (.bool (((s.top.code.blocks.getD s.top.blk.toNat default).ins.getD s.top.at_.toNat default).i.op == 34)))] trivial rfl fun _ => ?_
     refine au 1 0 (v := (((s.top.code.blocks.getD s.top.blk.toNat default).ins.getD s.top.at_.toNat default).i.op == 34)) rfl rfl rfl rfl (fun e1 => ?_) (fun e1 => ?_)
     ·
      have h4 := e1
      try simp only [BS] at h4
      refine bx 0 (v := (((s.top.code.blocks.getD s.top.blk.toNat default).ins.getD s.top.at_.toNat default).i.op == 34)) rfl e1 rfl rfl ?_
      refine ah ?_
      let lP : Value := (.agg ⟨[(iI ((s.top.code.blocks.getD s.top.blk.toNat default).ins.getD s.top.at_.toNat default).i.op), (iI ((s.top.code.blocks.getD s.top.blk.toNat default).ins.getD s.top.at_.toNat default).i.a), (iI ((s.top.code.blocks.getD s.top.blk.toNat default).ins.getD s.top.at_.toNat default).i.b), (iI ((s.top.code.blocks.getD s.top.blk.toNat default).ins.getD s.top.at_.toNat default).i.c), (iI ((s.top.code.blocks.getD s.top.blk.toNat default).ins.getD s.top.at_.toNat default).i.n)]⟩)
      refine wRo 4 0 [(3, .o lP)] 148 151 [] [(148, (.pointer (some ⟨b, 0, none⟩))), (149, (.pointer (some ⟨bt.b, 0, none⟩))), (151, lP)] (vA (qn 45 0 5 (HS.hc O (i := 9) rfl) rfl rfl rfl rfl) trivial) rfl fun _ => ?_
      refine aJ (R := fun v H' => v = .tuple #[] ∧ RunP (.of H (b :: q.map Prod.fst)) F R P la lk b (bD P s) H') (ay rfl rfl rfl) rfl rfl ?_ ?_
      ·
       refine aK Tryd.func88 rfl rfl ?_
       refine aw 1 rfl ?_
       refine ah ?_
       refine bf (dQ O rfl rfl) rfl rfl ?_
       rintro _ kQ _ ⟨h3, rfl, dv, _⟩
       let hA : Fp := [(h3, .cells [(iI ((s.top.code.blocks.getD s.top.blk.toNat default).ins.getD s.top.at_.toNat default).i.op), (iI ((s.top.code.blocks.getD s.top.blk.toNat default).ins.getD s.top.at_.toNat default).i.a), (iI ((s.top.code.blocks.getD s.top.blk.toNat default).ins.getD s.top.at_.toNat default).i.b), (iI ((s.top.code.blocks.getD s.top.blk.toNat default).ins.getD s.top.at_.toNat default).i.c), (iI ((s.top.code.blocks.getD s.top.blk.toNat default).ins.getD s.top.at_.toNat default).i.n)] none false)]
       have dv : HS _ _ _ [_, _, _, _, _, _, _, _, _, _, hA] _ := dv
       refine ao 2 rfl ?_
       obtain ⟨hD, hh, a1, b0, kE⟩ := SF.open y2 dv (q := 2) (i := ((s.top.code.blocks.getD s.top.blk.toNat default).ins.getD s.top.at_.toNat default).i.n.toNat) rfl (by first | omega | exact hgr _ | exact aj wf.rows _ | (dsimp only; omega))
       have a1 : HS _ _ _ [_, _, hD, _, _, _, _, _, _, _, _, hh] _ := a1
       have b0 : OS F (.slice (hd.getD ((s.top.code.blocks.getD s.top.blk.toNat default).ins.getD s.top.at_.toNat default).i.n.toNat default).a (hd.getD ((s.top.code.blocks.getD s.top.blk.toNat default).ins.getD s.top.at_.toNat default).i.n.toNat default).n (hd.getD ((s.top.code.blocks.getD s.top.blk.toNat default).ins.getD s.top.at_.toNat default).i.n.toNat default).k) (s.cells.getD ((s.top.code.blocks.getD s.top.blk.toNat default).ins.getD s.top.at_.toNat default).i.n.toNat default) hh := b0
       have pR := OS.nlen b0
       refine wRD 3 [(2, .o (iI ((s.top.code.blocks.getD s.top.blk.toNat default).ins.getD s.top.at_.toNat default).i.n)), (5, .o (iI ((s.top.code.blocks.getD s.top.blk.toNat default).ins.getD s.top.at_.toNat default).i.b)), (6, .o (iI (bC s.top.regs ((s.top.code.blocks.getD s.top.blk.toNat default).ins.getD s.top.at_.toNat default).i.b))), (7, .o (.pointer (cellA (hd.getD ((s.top.code.blocks.getD s.top.blk.toNat default).ins.getD s.top.at_.toNat default).i.n.toNat default) (bC s.top.regs ((s.top.code.blocks.getD s.top.blk.toNat default).ins.getD s.top.at_.toNat default).i.b))))] 7 14 [6] [(6, (.pointer (cellA (hd.getD ((s.top.code.blocks.getD s.top.blk.toNat default).ins.getD s.top.at_.toNat default).i.n.toNat default) (bC s.top.regs ((s.top.code.blocks.getD s.top.blk.toNat default).ins.getD s.top.at_.toNat default).i.b))))] (vA (ql 2 4 (hc0 (HS.hc dv (i := 10) rfl)) rfl rfl) (vA (ql 3 2 (hc0 (HS.hc dv (i := 10) rfl)) rfl rfl) (vA (ic.eJ ex s.top.regs ((s.top.code.blocks.getD s.top.blk.toNat default).ins.getD s.top.at_.toNat default).i.b { kQ with log := [] } (hc0 (HS.hc dv (i := 5) rfl)) (sv0 (OS.sv x2 dv (i := 6) rfl)) (by first | omega | exact hgr _ | exact aj wf.rows _ | (dsimp only; omega)) (by first | omega | exact hgr _ | exact aj wf.rows _ | (dsimp only; omega))) (vA (ic.cell_c_q ex hd (s.cells.getD ((s.top.code.blocks.getD s.top.blk.toNat default).ins.getD s.top.at_.toNat default).i.n.toNat default) ((s.top.code.blocks.getD s.top.blk.toNat default).ins.getD s.top.at_.toNat default).i.n (bC s.top.regs ((s.top.code.blocks.getD s.top.blk.toNat default).ins.getD s.top.at_.toNat default).i.b) { kQ with log := [] } (hc0 (HS.hc a1 (i := 0) rfl)) (sv0 (OS.sv T a1 (i := 1) rfl)) (sv0 (OS.sv b0 a1 (i := 11) rfl)) (by first | omega | exact hgr _ | exact aj wf.rows _ | (dsimp only; omega)) (by first | omega | exact hgr _ | exact aj wf.rows _ | (dsimp only; omega))) trivial)))) rfl rfl fun _ => ?_
       by_cases hb : 0 ≤ bC s.top.regs ((s.top.code.blocks.getD s.top.blk.toNat default).ins.getD s.top.at_.toNat default).i.b ∧ bC s.top.regs ((s.top.code.blocks.getD s.top.blk.toNat default).ins.getD s.top.at_.toNat default).i.b < ((hd.getD ((s.top.code.blocks.getD s.top.blk.toNat default).ins.getD s.top.at_.toNat default).i.n.toNat default).n : Int)
       ·
        rw [cell_in hb]
        refine wR 1 [] 21 23 [] [(21, (.bool false))] trivial rfl fun _ => ?_
        refine wk_iff 1 (v := false) rfl rfl rfl rfl ?_
        refine wR 1 [(1, .o (iI ((s.top.code.blocks.getD s.top.blk.toNat default).ins.getD s.top.at_.toNat default).i.op))] 26 29 [] [(26, (.bool (((s.top.code.blocks.getD s.top.blk.toNat default).ins.getD s.top.at_.toNat default).i.op == 34)))] (vA (ql 3 0 (HS.hc a1 (i := 10) rfl) rfl rfl) trivial) rfl fun _ => ?_
        refine bx 0 (v := (((s.top.code.blocks.getD s.top.blk.toNat default).ins.getD s.top.at_.toNat default).i.op == 34)) rfl e1 rfl rfl ?_
        refine aP rfl ?_
        refine fm (.pointer (some ⟨bt.b, 0, none⟩)) rfl rfl rfl ?_
        refine ai (v := (.pointer (some ⟨h3, 1, none⟩))) (id := .v) (aZ rfl rfl) rfl rfl (aG rfl) (aF _) ?_
        refine ai (v := (iI ((s.top.code.blocks.getD s.top.blk.toNat default).ins.getD s.top.at_.toNat default).i.a)) (id := .l h3) (aT (i := 1) rfl rfl (HS.hc a1.log0 (i := 10) rfl) rfl rfl) rfl rfl (bj rfl) (⟨.inl rfl, ⟨.inr trivial, trivial⟩⟩) ?_
        refine fm (.pointer (some ⟨sB (.slice (hd.getD ((s.top.code.blocks.getD s.top.blk.toNat default).ins.getD s.top.at_.toNat default).i.n.toNat default).a (hd.getD ((s.top.code.blocks.getD s.top.blk.toNat default).ins.getD s.top.at_.toNat default).i.n.toNat default).n (hd.getD ((s.top.code.blocks.getD s.top.blk.toNat default).ins.getD s.top.at_.toNat default).i.n.toNat default).k), sO (.slice (hd.getD ((s.top.code.blocks.getD s.top.blk.toNat default).ins.getD s.top.at_.toNat default).i.n.toNat default).a (hd.getD ((s.top.code.blocks.getD s.top.blk.toNat default).ins.getD s.top.at_.toNat default).i.n.toNat default).n (hd.getD ((s.top.code.blocks.getD s.top.blk.toNat default).ins.getD s.top.at_.toNat default).i.n.toNat default).k) + (bC s.top.regs ((s.top.code.blocks.getD s.top.blk.toNat default).ins.getD s.top.at_.toNat default).i.b).toNat * Rp.sz Int, none⟩)) rfl rfl rfl ?_
        refine ai (v := (.pointer (some ⟨sB (.slice (hd.getD ((s.top.code.blocks.getD s.top.blk.toNat default).ins.getD s.top.at_.toNat default).i.n.toNat default).a (hd.getD ((s.top.code.blocks.getD s.top.blk.toNat default).ins.getD s.top.at_.toNat default).i.n.toNat default).n (hd.getD ((s.top.code.blocks.getD s.top.blk.toNat default).ins.getD s.top.at_.toNat default).i.n.toNat default).k), sO (.slice (hd.getD ((s.top.code.blocks.getD s.top.blk.toNat default).ins.getD s.top.at_.toNat default).i.n.toNat default).a (hd.getD ((s.top.code.blocks.getD s.top.blk.toNat default).ins.getD s.top.at_.toNat default).i.n.toNat default).n (hd.getD ((s.top.code.blocks.getD s.top.blk.toNat default).ins.getD s.top.at_.toNat default).i.n.toNat default).k) + (bC s.top.regs ((s.top.code.blocks.getD s.top.blk.toNat default).ins.getD s.top.at_.toNat default).i.b).toNat * Rp.sz Int, none⟩))) (id := .v) (bN rfl) rfl rfl (aG rfl) (aF _) ?_
        obtain ⟨pA, mg, l0⟩ := Sv.at (OS.sv b0 a1.log0 (i := 11) rfl) (cN (x := (0 : Int)) (show (bC s.top.regs ((s.top.code.blocks.getD s.top.blk.toNat default).ins.getD s.top.at_.toNat default).i.b).toNat < (s.cells.getD ((s.top.code.blocks.getD s.top.blk.toNat default).ins.getD s.top.at_.toNat default).i.n.toNat default).length from by first | omega | exact hgr _ | exact aj wf.rows _ | (dsimp only; omega)))
        obtain ⟨rfl, oV⟩ := mg
        refine ai (v := (iI ((s.cells.getD ((s.top.code.blocks.getD s.top.blk.toNat default).ins.getD s.top.at_.toNat default).i.n.toNat default).getD (bC s.top.regs ((s.top.code.blocks.getD s.top.blk.toNat default).ins.getD s.top.at_.toNat default).i.b).toNat 0))) (id := .l (sB (.slice (hd.getD ((s.top.code.blocks.getD s.top.blk.toNat default).ins.getD s.top.at_.toNat default).i.n.toNat default).a (hd.getD ((s.top.code.blocks.getD s.top.blk.toNat default).ins.getD s.top.at_.toNat default).i.n.toNat default).n (hd.getD ((s.top.code.blocks.getD s.top.blk.toNat default).ins.getD s.top.at_.toNat default).i.n.toNat default).k))) (aT (i := 0) rfl rfl l0 rfl rfl) rfl rfl (bj rfl) (⟨.inl rfl, ⟨.inl rfl, ⟨.inr trivial, ⟨.inr trivial, ⟨.inr trivial, trivial⟩⟩⟩⟩⟩) ?_
        refine aY (W := ((([(bt.b, .cells [(iI s.top.code.params), (iI s.top.code.regs), (.slice ba s.top.code.blocks.length bk), (.slice ra s.top.regs.length rk), (.slice aa s.top.args.length ak), (iI s.top.blk), (iI (s.top.at_ + 1)), (iI s.top.to_)] none false)] : Fp) ++ pg).map Prod.fst)) (ay rfl rfl rfl) rfl rfl rfl (il ex s.top.regs ((s.top.code.blocks.getD s.top.blk.toNat default).ins.getD s.top.at_.toNat default).i.a ((s.cells.getD ((s.top.code.blocks.getD s.top.blk.toNat default).ins.getD s.top.at_.toNat default).i.n.toNat default).getD (bC s.top.regs ((s.top.code.blocks.getD s.top.blk.toNat default).ins.getD s.top.at_.toNat default).i.b).toNat 0) (HS.call2 a1.log0 (i := 5) (j := 6) (by decide) rfl rfl) x2 (by first | omega | exact hgr _ | exact aj wf.rows _ | (dsimp only; omega)) (by first | omega | exact hgr _ | exact aj wf.rows _ | (dsimp only; omega)) (by first | omega | exact hgr _ | exact dO (hgr _) | exact eA | exact cB _)) (⟨.inl rfl, ⟨.inl rfl, ⟨.inl rfl, ⟨.inl rfl, ⟨.inl rfl, ⟨.inl rfl, trivial⟩⟩⟩⟩⟩⟩) ?_
        rintro _ nT ⟨ne, nB, nr, mT, pU, bl, b1, rfl, mh⟩
        refine ⟨HS.didW b1, fun mA lc => ?_⟩
        replace b1 := HS.back2 a1.log0 (i := 5) (j := 6) (by decide) rfl rfl rfl (fun _ hb => hb) b1
        replace b1 := HS.lg b1 a1 lc
        generalize ({ nT with log := mA } : Heap) = o9 at b1 ⊢
        have b1 : HS _ _ _ [es, pc, hD, pp, pl, [(bt.b, .cells [(iI s.top.code.params), (iI s.top.code.regs), (.slice ba s.top.code.blocks.length bk), (.slice ne nB nr), (.slice aa s.top.args.length ak), (iI s.top.blk), (iI (s.top.at_ + 1)), (iI s.top.to_)] none false)], mT, po, I, A, hA, hh] _ := b1
        replace b0 := b0.mono bl
        replace U := U.mono bl
        replace Z := Z.mono bl
        replace T := T.mono bl
        replace y3 := y3.mono bl
        replace V := V.mono bl
        replace y4 := FAM.mono (fun k => CR.mono bl k) y4
        refine bX ?_
        refine aw 1 rfl ?_
        obtain ⟨lW, hF, kG⟩ := SF.shut0 kE (bl) b1 (q := 2) (m := 11) (by decide) rfl rfl b0
        have hF : HS _ _ _ [_, _, lW, _, _, _, _, _, _, _, _, []] _ := hF
        have pC := FAM.len kG
        exact aA ⟨.inl rfl, _, rfl, rfl, RunP.mk (bt := bt) (L := [I, A, hA, []]) (by unfold bD; dsimp only [el, e9, b8]; (repeat (first | rw [if_pos (by omega)] | rw [if_neg (by omega)] | rw [if_pos hlow] | rw [if_neg hlow] | (unfold cr; dsimp only [goT, az]) | (unfold fD; dsimp only [az]) | (unfold fe; dsimp only [cv, az]) | (unfold fb; dsimp only [cv, az]) | (unfold cu; dsimp only [az]))); first | done | rfl | rw [hmap]) hF (bl) T kG y3 y4 V y7 U mh Z⟩
       ·
        rw [jX hb]
        refine wR 1 [] 21 23 [] [(21, (.bool true))] trivial rfl fun _ => ?_
        refine bx 0 (v := true) rfl rfl rfl rfl ?_
        refine ah ?_
        refine wm (.pointer (some ⟨b, 0, none⟩)) rfl rfl rfl ?_
        refine aJ (ay rfl rfl rfl) rfl rfl (i8 ex (2) (2) (0) (HS.callOwn a1 (i := 0) rfl)) ?_
        rintro _ p4 ⟨g3, rfl⟩
        replace g3 := HS.backOwn a1 (i := 0) rfl rfl (fun _ hb => hb) g3
        have g3 : HS _ _ _ [[(b, .cells [(.slice la P.length lk), (.slice ca hd.length ck), (.slice pa (ps ++ [bt]).length pk), (iI s.fuel), (.bool true), (iI 2), (iI 2), (.slice oa s.out.length ok), (iI 0)] none false)], pc, hD, pp, pl, [(bt.b, .cells [(iI s.top.code.params), (iI s.top.code.regs), (.slice ba s.top.code.blocks.length bk), (.slice ra s.top.regs.length rk), (.slice aa s.top.args.length ak), (iI s.top.blk), (iI (s.top.at_ + 1)), (iI s.top.to_)] none false)], pg, po, I, A, hA, hh] _ := g3
        refine ao 1 rfl ?_
        obtain ⟨lX, hG, kH⟩ := SF.shut0 kE fR g3 (q := 2) (m := 11) (by decide) rfl rfl b0
        have hG : HS _ _ _ [_, _, lX, _, _, _, _, _, _, _, _, []] _ := hG
        have pD := FAM.len kH
        exact aA ⟨.inl rfl, _, rfl, rfl, RunP.mk (bt := bt) (L := [I, A, hA, []]) (by unfold bD; dsimp only [el, e9, b8]; (repeat (first | rw [if_pos (by omega)] | rw [if_neg (by omega)] | rw [if_pos hlow] | rw [if_neg hlow] | (unfold cr; dsimp only [goT, az]) | (unfold fD; dsimp only [az]) | (unfold fe; dsimp only [cv, az]) | (unfold fb; dsimp only [cv, az]) | (unfold cu; dsimp only [az]))); first | done | rfl | rw [hmap]) hG fR T kH y3 y4 V (by first | exact hgr _ | exact ⟨by decide, by decide⟩ | omega) U x2 Z⟩
      rintro _ p5 ⟨rfl, jq⟩
      refine ao 1 rfl ?_
      exact aA ⟨.inl rfl, _, rfl, rfl, jq⟩
     ·
      have h4 := e1
      try simp only [BS] at h4
      refine wR 1 [] 145 147 [] [(145, (.bool (((s.top.code.blocks.getD s.top.blk.toNat default).ins.getD s.top.at_.toNat default).i.op == 35)))] trivial rfl fun _ => ?_
      refine au 0 0 (v := (((s.top.code.blocks.getD s.top.blk.toNat default).ins.getD s.top.at_.toNat default).i.op == 35)) rfl rfl rfl rfl (fun h5 => ?_) (fun h5 => ?_)
      ·
       try simp only [BS] at h5
       refine ah ?_
       let lQ : Value := (.agg ⟨[(iI ((s.top.code.blocks.getD s.top.blk.toNat default).ins.getD s.top.at_.toNat default).i.op), (iI ((s.top.code.blocks.getD s.top.blk.toNat default).ins.getD s.top.at_.toNat default).i.a), (iI ((s.top.code.blocks.getD s.top.blk.toNat default).ins.getD s.top.at_.toNat default).i.b), (iI ((s.top.code.blocks.getD s.top.blk.toNat default).ins.getD s.top.at_.toNat default).i.c), (iI ((s.top.code.blocks.getD s.top.blk.toNat default).ins.getD s.top.at_.toNat default).i.n)]⟩)
       refine wRo 4 0 [(3, .o lQ)] 148 151 [] [(148, (.pointer (some ⟨b, 0, none⟩))), (149, (.pointer (some ⟨bt.b, 0, none⟩))), (151, lQ)] (vA (qn 45 0 5 (HS.hc O (i := 9) rfl) rfl rfl rfl rfl) trivial) rfl fun _ => ?_
       refine aJ (R := fun v H' => v = .tuple #[] ∧ RunP (.of H (b :: q.map Prod.fst)) F R P la lk b (bD P s) H') (ay rfl rfl rfl) rfl rfl ?_ ?_
       ·
        refine aK Tryd.func88 rfl rfl ?_
        refine aw 1 rfl ?_
        refine ah ?_
        refine bf (dQ O rfl rfl) rfl rfl ?_
        rintro _ h1 _ ⟨n3, rfl, d1, _⟩
        let hY : Fp := [(n3, .cells [(iI ((s.top.code.blocks.getD s.top.blk.toNat default).ins.getD s.top.at_.toNat default).i.op), (iI ((s.top.code.blocks.getD s.top.blk.toNat default).ins.getD s.top.at_.toNat default).i.a), (iI ((s.top.code.blocks.getD s.top.blk.toNat default).ins.getD s.top.at_.toNat default).i.b), (iI ((s.top.code.blocks.getD s.top.blk.toNat default).ins.getD s.top.at_.toNat default).i.c), (iI ((s.top.code.blocks.getD s.top.blk.toNat default).ins.getD s.top.at_.toNat default).i.n)] none false)]
        have d1 : HS _ _ _ [_, _, _, _, _, _, _, _, _, _, hY] _ := d1
        refine ao 2 rfl ?_
        obtain ⟨kD, hB, a6, e4, kF⟩ := SF.open y2 d1 (q := 2) (i := ((s.top.code.blocks.getD s.top.blk.toNat default).ins.getD s.top.at_.toNat default).i.n.toNat) rfl (by first | omega | exact hgr _ | exact aj wf.rows _ | (dsimp only; omega))
        have a6 : HS _ _ _ [_, _, kD, _, _, _, _, _, _, _, _, hB] _ := a6
        have e4 : OS F (.slice (hd.getD ((s.top.code.blocks.getD s.top.blk.toNat default).ins.getD s.top.at_.toNat default).i.n.toNat default).a (hd.getD ((s.top.code.blocks.getD s.top.blk.toNat default).ins.getD s.top.at_.toNat default).i.n.toNat default).n (hd.getD ((s.top.code.blocks.getD s.top.blk.toNat default).ins.getD s.top.at_.toNat default).i.n.toNat default).k) (s.cells.getD ((s.top.code.blocks.getD s.top.blk.toNat default).ins.getD s.top.at_.toNat default).i.n.toNat default) hB := e4
        have pS := OS.nlen e4
        refine wRD 3 [(2, .o (iI ((s.top.code.blocks.getD s.top.blk.toNat default).ins.getD s.top.at_.toNat default).i.n)), (5, .o (iI ((s.top.code.blocks.getD s.top.blk.toNat default).ins.getD s.top.at_.toNat default).i.b)), (6, .o (iI (bC s.top.regs ((s.top.code.blocks.getD s.top.blk.toNat default).ins.getD s.top.at_.toNat default).i.b))), (7, .o (.pointer (cellA (hd.getD ((s.top.code.blocks.getD s.top.blk.toNat default).ins.getD s.top.at_.toNat default).i.n.toNat default) (bC s.top.regs ((s.top.code.blocks.getD s.top.blk.toNat default).ins.getD s.top.at_.toNat default).i.b))))] 7 14 [6] [(6, (.pointer (cellA (hd.getD ((s.top.code.blocks.getD s.top.blk.toNat default).ins.getD s.top.at_.toNat default).i.n.toNat default) (bC s.top.regs ((s.top.code.blocks.getD s.top.blk.toNat default).ins.getD s.top.at_.toNat default).i.b))))] (vA (ql 2 4 (hc0 (HS.hc d1 (i := 10) rfl)) rfl rfl) (vA (ql 3 2 (hc0 (HS.hc d1 (i := 10) rfl)) rfl rfl) (vA (ic.eJ ex s.top.regs ((s.top.code.blocks.getD s.top.blk.toNat default).ins.getD s.top.at_.toNat default).i.b { h1 with log := [] } (hc0 (HS.hc d1 (i := 5) rfl)) (sv0 (OS.sv x2 d1 (i := 6) rfl)) (by first | omega | exact hgr _ | exact aj wf.rows _ | (dsimp only; omega)) (by first | omega | exact hgr _ | exact aj wf.rows _ | (dsimp only; omega))) (vA (ic.cell_c_q ex hd (s.cells.getD ((s.top.code.blocks.getD s.top.blk.toNat default).ins.getD s.top.at_.toNat default).i.n.toNat default) ((s.top.code.blocks.getD s.top.blk.toNat default).ins.getD s.top.at_.toNat default).i.n (bC s.top.regs ((s.top.code.blocks.getD s.top.blk.toNat default).ins.getD s.top.at_.toNat default).i.b) { h1 with log := [] } (hc0 (HS.hc a6 (i := 0) rfl)) (sv0 (OS.sv T a6 (i := 1) rfl)) (sv0 (OS.sv e4 a6 (i := 11) rfl)) (by first | omega | exact hgr _ | exact aj wf.rows _ | (dsimp only; omega)) (by first | omega | exact hgr _ | exact aj wf.rows _ | (dsimp only; omega))) trivial)))) rfl rfl fun _ => ?_
        by_cases hb : 0 ≤ bC s.top.regs ((s.top.code.blocks.getD s.top.blk.toNat default).ins.getD s.top.at_.toNat default).i.b ∧ bC s.top.regs ((s.top.code.blocks.getD s.top.blk.toNat default).ins.getD s.top.at_.toNat default).i.b < ((hd.getD ((s.top.code.blocks.getD s.top.blk.toNat default).ins.getD s.top.at_.toNat default).i.n.toNat default).n : Int)
        ·
         rw [cell_in hb]
         refine wR 1 [] 21 23 [] [(21, (.bool false))] trivial rfl fun _ => ?_
         refine wk_iff 1 (v := false) rfl rfl rfl rfl ?_
         refine wR 1 [(1, .o (iI ((s.top.code.blocks.getD s.top.blk.toNat default).ins.getD s.top.at_.toNat default).i.op))] 26 29 [] [(26, (.bool (((s.top.code.blocks.getD s.top.blk.toNat default).ins.getD s.top.at_.toNat default).i.op == 34)))] (vA (ql 3 0 (HS.hc a6 (i := 10) rfl) rfl rfl) trivial) rfl fun _ => ?_
         refine wk_iff 0 (v := (((s.top.code.blocks.getD s.top.blk.toNat default).ins.getD s.top.at_.toNat default).i.op == 34)) rfl e1 rfl rfl ?_
         refine ah ?_
         refine wRo 6 0 [(3, .o (iI ((s.top.code.blocks.getD s.top.blk.toNat default).ins.getD s.top.at_.toNat default).i.a)), (4, .o (iI (bC s.top.regs ((s.top.code.blocks.getD s.top.blk.toNat default).ins.getD s.top.at_.toNat default).i.a)))] 15 20 [] [(19, (iI (bC s.top.regs ((s.top.code.blocks.getD s.top.blk.toNat default).ins.getD s.top.at_.toNat default).i.a))), (20, (.pointer (some ⟨sB (.slice (hd.getD ((s.top.code.blocks.getD s.top.blk.toNat default).ins.getD s.top.at_.toNat default).i.n.toNat default).a (hd.getD ((s.top.code.blocks.getD s.top.blk.toNat default).ins.getD s.top.at_.toNat default).i.n.toNat default).n (hd.getD ((s.top.code.blocks.getD s.top.blk.toNat default).ins.getD s.top.at_.toNat default).i.n.toNat default).k), sO (.slice (hd.getD ((s.top.code.blocks.getD s.top.blk.toNat default).ins.getD s.top.at_.toNat default).i.n.toNat default).a (hd.getD ((s.top.code.blocks.getD s.top.blk.toNat default).ins.getD s.top.at_.toNat default).i.n.toNat default).n (hd.getD ((s.top.code.blocks.getD s.top.blk.toNat default).ins.getD s.top.at_.toNat default).i.n.toNat default).k) + (bC s.top.regs ((s.top.code.blocks.getD s.top.blk.toNat default).ins.getD s.top.at_.toNat default).i.b).toNat * Rp.sz Int, none⟩)))] (vA (ql 3 1 (HS.hc a6 (i := 10) rfl) rfl rfl) (vA (ic.eJ ex s.top.regs ((s.top.code.blocks.getD s.top.blk.toNat default).ins.getD s.top.at_.toNat default).i.a h1 (HS.hc a6 (i := 5) rfl) (OS.sv x2 a6 (i := 6) rfl) (by first | omega | exact hgr _ | exact aj wf.rows _ | (dsimp only; omega)) (by first | omega | exact hgr _ | exact aj wf.rows _ | (dsimp only; omega))) trivial)) rfl fun _ => ?_
         refine aN (rs_st (α := Int) (j := (bC s.top.regs ((s.top.code.blocks.getD s.top.blk.toNat default).ins.getD s.top.at_.toNat default).i.b).toNat) (off := 0) (q := 11) (bC s.top.regs ((s.top.code.blocks.getD s.top.blk.toNat default).ins.getD s.top.at_.toNat default).i.a) e4 a6 rfl rfl rfl rfl rfl rfl rfl rfl (cN (x := (0 : Int)) (by first | omega | exact hgr _ | exact aj wf.rows _ | (dsimp only; omega))) rfl (by rintro cs ⟨rfl, _⟩; exact ⟨Nat.le_of_ble_eq_true rfl, rfl, by first | omega | exact hgr _ | exact aj wf.rows _ | (dsimp only; omega)⟩)) rfl ?_
         rintro _ p6 oE ⟨kL, hK, _⟩
         have hK : HS _ _ _ [_, _, _, _, _, _, _, _, _, _, _, oE] _ := hK
         have oY := OS.len' kL
         refine ao 1 rfl ?_
         obtain ⟨lY, hM, kI⟩ := SF.shut kF fR hK (q := 2) (m := 11) (by decide) rfl rfl kL
         have hM : HS _ _ _ [_, _, lY, _, _, _, _, _, _, _, _, []] _ := hM
         have pE := FAM.len kI
         exact aA ⟨.inl rfl, _, rfl, rfl, RunP.mk (bt := bt) (L := [I, A, hY, []]) (by unfold bD; dsimp only [el, e9, b8]; (repeat (first | rw [if_pos (by omega)] | rw [if_neg (by omega)] | rw [if_pos hlow] | rw [if_neg hlow] | (unfold cr; dsimp only [goT, az]) | (unfold fD; dsimp only [az]) | (unfold fe; dsimp only [cv, az]) | (unfold fb; dsimp only [cv, az]) | (unfold cu; dsimp only [az]))); first | done | rfl | rw [hmap]) hM fR T kI y3 y4 V y7 U x2 Z⟩
        ·
         rw [jX hb]
         refine wR 1 [] 21 23 [] [(21, (.bool true))] trivial rfl fun _ => ?_
         refine bx 0 (v := true) rfl rfl rfl rfl ?_
         refine ah ?_
         refine wm (.pointer (some ⟨b, 0, none⟩)) rfl rfl rfl ?_
         refine aJ (ay rfl rfl rfl) rfl rfl (i8 ex (2) (2) (0) (HS.callOwn a6 (i := 0) rfl)) ?_
         rintro _ p7 ⟨g4, rfl⟩
         replace g4 := HS.backOwn a6 (i := 0) rfl rfl (fun _ hb => hb) g4
         have g4 : HS _ _ _ [[(b, .cells [(.slice la P.length lk), (.slice ca hd.length ck), (.slice pa (ps ++ [bt]).length pk), (iI s.fuel), (.bool true), (iI 2), (iI 2), (.slice oa s.out.length ok), (iI 0)] none false)], pc, kD, pp, pl, [(bt.b, .cells [(iI s.top.code.params), (iI s.top.code.regs), (.slice ba s.top.code.blocks.length bk), (.slice ra s.top.regs.length rk), (.slice aa s.top.args.length ak), (iI s.top.blk), (iI (s.top.at_ + 1)), (iI s.top.to_)] none false)], pg, po, I, A, hY, hB] _ := g4
         refine ao 1 rfl ?_
         obtain ⟨lZ, hQ, kJ⟩ := SF.shut0 kF fR g4 (q := 2) (m := 11) (by decide) rfl rfl e4
         have hQ : HS _ _ _ [_, _, lZ, _, _, _, _, _, _, _, _, []] _ := hQ
         have pF := FAM.len kJ
         exact aA ⟨.inl rfl, _, rfl, rfl, RunP.mk (bt := bt) (L := [I, A, hY, []]) (by unfold bD; dsimp only [el, e9, b8]; (repeat (first | rw [if_pos (by omega)] | rw [if_neg (by omega)] | rw [if_pos hlow] | rw [if_neg hlow] | (unfold cr; dsimp only [goT, az]) | (unfold fD; dsimp only [az]) | (unfold fe; dsimp only [cv, az]) | (unfold fb; dsimp only [cv, az]) | (unfold cu; dsimp only [az]))); first | done | rfl | rw [hmap]) hQ fR T kJ y3 y4 V (by first | exact hgr _ | exact ⟨by decide, by decide⟩ | omega) U x2 Z⟩
       rintro _ p8 ⟨rfl, jw⟩
       refine ao 1 rfl ?_
       exact aA ⟨.inl rfl, _, rfl, rfl, jw⟩
      ·
       try simp only [BS] at h5
       refine ah ?_
       let lR : Value := (.agg ⟨[(iI ((s.top.code.blocks.getD s.top.blk.toNat default).ins.getD s.top.at_.toNat default).i.op), (iI ((s.top.code.blocks.getD s.top.blk.toNat default).ins.getD s.top.at_.toNat default).i.a), (iI ((s.top.code.blocks.getD s.top.blk.toNat default).ins.getD s.top.at_.toNat default).i.b), (iI ((s.top.code.blocks.getD s.top.blk.toNat default).ins.getD s.top.at_.toNat default).i.c), (iI ((s.top.code.blocks.getD s.top.blk.toNat default).ins.getD s.top.at_.toNat default).i.n)]⟩)
       refine wRo 4 0 [(3, .o lR)] 60 63 [] [(60, (.pointer (some ⟨b, 0, none⟩))), (61, (.pointer (some ⟨bt.b, 0, none⟩))), (63, lR)] (vA (qn 45 0 5 (HS.hc O (i := 9) rfl) rfl rfl rfl rfl) trivial) rfl fun _ => ?_
       refine aJ (R := fun v H' => v = .tuple #[] ∧ RunP (.of H (b :: q.map Prod.fst)) F R P la lk b (bD P s) H') (ay rfl rfl rfl) rfl rfl ?_ ?_
       ·
        refine aK Tryd.func89 rfl rfl ?_
        refine aw 1 rfl ?_
        refine ah ?_
        refine bf (dQ O rfl rfl) rfl rfl ?_
        rintro _ dk _ ⟨E, rfl, z, _⟩
        let av : Fp := [(E, .cells [(iI ((s.top.code.blocks.getD s.top.blk.toNat default).ins.getD s.top.at_.toNat default).i.op), (iI ((s.top.code.blocks.getD s.top.blk.toNat default).ins.getD s.top.at_.toNat default).i.a), (iI ((s.top.code.blocks.getD s.top.blk.toNat default).ins.getD s.top.at_.toNat default).i.b), (iI ((s.top.code.blocks.getD s.top.blk.toNat default).ins.getD s.top.at_.toNat default).i.c), (iI ((s.top.code.blocks.getD s.top.blk.toNat default).ins.getD s.top.at_.toNat default).i.n)] none false)]
        have z : HS _ _ _ [_, _, _, _, _, _, _, _, _, _, av] _ := z
        refine ao 2 rfl ?_
        refine wR 3 [(1, .o (iI ((s.top.code.blocks.getD s.top.blk.toNat default).ins.getD s.top.at_.toNat default).i.op))] 7 8 [] [(8, (iI ((s.top.code.blocks.getD s.top.blk.toNat default).ins.getD s.top.at_.toNat default).i.op))] (vA (ql 3 0 (HS.hc z (i := 10) rfl) rfl rfl) trivial) rfl fun _ => ?_
        refine wR 1 [] 41 42 [] [(41, (.bool (((s.top.code.blocks.getD s.top.blk.toNat default).ins.getD s.top.at_.toNat default).i.op == 10)))] trivial rfl fun _ => ?_
        refine au 0 1 (v := (((s.top.code.blocks.getD s.top.blk.toNat default).ins.getD s.top.at_.toNat default).i.op == 10)) rfl rfl rfl rfl (fun h6 => ?_) (fun h6 => ?_)
        ·
         try simp only [BS] at h6
         refine aP rfl ?_
         refine fm (.pointer (some ⟨bt.b, 0, none⟩)) rfl rfl rfl ?_
         refine ai (v := (.pointer (some ⟨E, 1, none⟩))) (id := .v) (aZ rfl rfl) rfl rfl (aG rfl) (aF _) ?_
         refine ai (v := (iI ((s.top.code.blocks.getD s.top.blk.toNat default).ins.getD s.top.at_.toNat default).i.a)) (id := .l E) (aT (i := 1) rfl rfl (HS.hc z.log0 (i := 10) rfl) rfl rfl) rfl rfl (bj rfl) (⟨.inl rfl, ⟨.inr trivial, trivial⟩⟩) ?_
         refine fm (.pointer (some ⟨bt.b, 0, none⟩)) rfl rfl rfl ?_
         refine ai (v := (.pointer (some ⟨E, 2, none⟩))) (id := .v) (aZ rfl rfl) rfl rfl (aG rfl) (aF _) ?_
         refine ai (v := (iI ((s.top.code.blocks.getD s.top.blk.toNat default).ins.getD s.top.at_.toNat default).i.b)) (id := .l E) (aT (i := 2) rfl rfl (HS.hc z.log0 (i := 10) rfl) rfl rfl) rfl rfl (bj rfl) (⟨.inl rfl, ⟨.inr trivial, ⟨.inr trivial, ⟨.inr trivial, ⟨.inr trivial, trivial⟩⟩⟩⟩⟩) ?_
         refine aY (W := []) (ay rfl rfl rfl) rfl rfl rfl (ic.iX ex s.top.regs ((s.top.code.blocks.getD s.top.blk.toNat default).ins.getD s.top.at_.toNat default).i.b _ (HS.hc z.log0 (i := 5) rfl) (OS.sv x2 z.log0 (i := 6) rfl) (by first | omega | exact hgr _ | exact aj wf.rows _ | (dsimp only; omega)) (by first | omega | exact hgr _ | exact aj wf.rows _ | (dsimp only; omega))) (⟨.inl rfl, ⟨.inl rfl, ⟨.inl rfl, ⟨.inr List.not_mem_nil, ⟨.inr trivial, ⟨.inr trivial, trivial⟩⟩⟩⟩⟩⟩) ?_
         rintro _ _ ⟨qI, rfl, rfl, rfl⟩
         refine ⟨fun b hb => absurd hb List.not_mem_nil, fun mB ld => ?_⟩
         have hk := HS.lg z.log0 z ld
         generalize ({ { dk with log := [] } with log := mB } : Heap) = pb at hk ⊢
         refine aY (W := ((([(bt.b, .cells [(iI s.top.code.params), (iI s.top.code.regs), (.slice ba s.top.code.blocks.length bk), (.slice ra s.top.regs.length rk), (.slice aa s.top.args.length ak), (iI s.top.blk), (iI (s.top.at_ + 1)), (iI s.top.to_)] none false)] : Fp) ++ pg).map Prod.fst)) (ay rfl rfl rfl) rfl rfl rfl (il ex s.top.regs ((s.top.code.blocks.getD s.top.blk.toNat default).ins.getD s.top.at_.toNat default).i.a (bC s.top.regs ((s.top.code.blocks.getD s.top.blk.toNat default).ins.getD s.top.at_.toNat default).i.b) (HS.call2 hk.log0 (i := 5) (j := 6) (by decide) rfl rfl) x2 (by first | omega | exact hgr _ | exact aj wf.rows _ | (dsimp only; omega)) (by first | omega | exact hgr _ | exact aj wf.rows _ | (dsimp only; omega)) (by first | omega | exact hgr _ | exact dO (hgr _) | exact eA | exact cB _)) (⟨.inl rfl, ⟨.inl rfl, ⟨.inl rfl, ⟨.inl rfl, ⟨.inl rfl, ⟨.inl rfl, ⟨.inl rfl, trivial⟩⟩⟩⟩⟩⟩⟩) ?_
         rintro _ nU ⟨ng, nC, ns, mU, pV, cl, b2, rfl, mi⟩
         refine ⟨HS.didW b2, fun mC lf => ?_⟩
         replace b2 := HS.back2 hk.log0 (i := 5) (j := 6) (by decide) rfl rfl rfl (fun _ hb => hb) b2
         replace b2 := HS.lg b2 hk lf
         generalize ({ nU with log := mC } : Heap) = pd at b2 ⊢
         have b2 : HS _ _ _ [es, pc, pr, pp, pl, [(bt.b, .cells [(iI s.top.code.params), (iI s.top.code.regs), (.slice ba s.top.code.blocks.length bk), (.slice ng nC ns), (.slice aa s.top.args.length ak), (iI s.top.blk), (iI (s.top.at_ + 1)), (iI s.top.to_)] none false)], mU, po, I, A, av] _ := b2
         replace U := U.mono cl
         replace Z := Z.mono cl
         replace T := T.mono cl
         replace y3 := y3.mono cl
         replace V := V.mono cl
         replace y2 := SF.mono cl y2
         replace y4 := FAM.mono (fun k => CR.mono cl k) y4
         refine bX ?_
         refine aw 1 rfl ?_
         exact aA ⟨.inl rfl, _, rfl, rfl, RunP.mk (bt := bt) (L := [I, A, av]) (by unfold bD; dsimp only [el, e9, b8]; (repeat (first | rw [if_pos (by omega)] | rw [if_neg (by omega)] | rw [if_pos hlow] | rw [if_neg hlow] | (unfold cr; dsimp only [goT, az]) | (unfold fD; dsimp only [az]) | (unfold fe; dsimp only [cv, az]) | (unfold fb; dsimp only [cv, az]) | (unfold cu; dsimp only [az]))); first | done | rfl | rw [hmap]) b2 (cl) T y2 y3 y4 V y7 U mi Z⟩
        ·
         try simp only [BS] at h6
         refine wR 1 [] 51 52 [] [(51, (.bool (((s.top.code.blocks.getD s.top.blk.toNat default).ins.getD s.top.at_.toNat default).i.op == 11)))] trivial rfl fun _ => ?_
         refine au 1 1 (v := (((s.top.code.blocks.getD s.top.blk.toNat default).ins.getD s.top.at_.toNat default).i.op == 11)) rfl rfl rfl rfl (fun h7 => ?_) (fun h7 => ?_)
         ·
          try simp only [BS] at h7
          refine wR 1 [(2, .o (iI ((s.top.code.blocks.getD s.top.blk.toNat default).ins.getD s.top.at_.toNat default).i.c)), (3, .o (iI (bC s.top.regs ((s.top.code.blocks.getD s.top.blk.toNat default).ins.getD s.top.at_.toNat default).i.c)))] 53 57 [] [(57, (.bool (bC s.top.regs ((s.top.code.blocks.getD s.top.blk.toNat default).ins.getD s.top.at_.toNat default).i.c == 0)))] (vA (ql 3 3 (HS.hc z (i := 10) rfl) rfl rfl) (vA (ic.eJ ex s.top.regs ((s.top.code.blocks.getD s.top.blk.toNat default).ins.getD s.top.at_.toNat default).i.c dk (HS.hc z (i := 5) rfl) (OS.sv x2 z (i := 6) rfl) (by first | omega | exact hgr _ | exact aj wf.rows _ | (dsimp only; omega)) (by first | omega | exact hgr _ | exact aj wf.rows _ | (dsimp only; omega))) trivial)) rfl fun _ => ?_
          refine au 0 1 (v := (bC s.top.regs ((s.top.code.blocks.getD s.top.blk.toNat default).ins.getD s.top.at_.toNat default).i.c == 0)) rfl rfl rfl rfl (fun h8 => ?_) (fun h8 => ?_)
          ·
           try simp only [BS] at h8
           refine aP rfl ?_
           refine fm (.pointer (some ⟨bt.b, 0, none⟩)) rfl rfl rfl ?_
           refine ai (v := (.pointer (some ⟨E, 1, none⟩))) (id := .v) (aZ rfl rfl) rfl rfl (aG rfl) (aF _) ?_
           refine ai (v := (iI ((s.top.code.blocks.getD s.top.blk.toNat default).ins.getD s.top.at_.toNat default).i.a)) (id := .l E) (aT (i := 1) rfl rfl (HS.hc z.log0 (i := 10) rfl) rfl rfl) rfl rfl (bj rfl) (⟨.inl rfl, ⟨.inr trivial, trivial⟩⟩) ?_
           refine fm (.pointer (some ⟨bt.b, 0, none⟩)) rfl rfl rfl ?_
           refine ai (v := (.pointer (some ⟨E, 2, none⟩))) (id := .v) (aZ rfl rfl) rfl rfl (aG rfl) (aF _) ?_
           refine ai (v := (iI ((s.top.code.blocks.getD s.top.blk.toNat default).ins.getD s.top.at_.toNat default).i.b)) (id := .l E) (aT (i := 2) rfl rfl (HS.hc z.log0 (i := 10) rfl) rfl rfl) rfl rfl (bj rfl) (⟨.inl rfl, ⟨.inr trivial, ⟨.inr trivial, ⟨.inr trivial, ⟨.inr trivial, trivial⟩⟩⟩⟩⟩) ?_
           refine aY (W := []) (ay rfl rfl rfl) rfl rfl rfl (ic.iX ex s.top.regs ((s.top.code.blocks.getD s.top.blk.toNat default).ins.getD s.top.at_.toNat default).i.b _ (HS.hc z.log0 (i := 5) rfl) (OS.sv x2 z.log0 (i := 6) rfl) (by first | omega | exact hgr _ | exact aj wf.rows _ | (dsimp only; omega)) (by first | omega | exact hgr _ | exact aj wf.rows _ | (dsimp only; omega))) (⟨.inl rfl, ⟨.inl rfl, ⟨.inl rfl, ⟨.inr List.not_mem_nil, ⟨.inr trivial, ⟨.inr trivial, trivial⟩⟩⟩⟩⟩⟩) ?_
           rintro _ _ ⟨qJ, rfl, rfl, rfl⟩
           refine ⟨fun b hb => absurd hb List.not_mem_nil, fun mD lh => ?_⟩
           have hl := HS.lg z.log0 z lh
           generalize ({ { dk with log := [] } with log := mD } : Heap) = pe at hl ⊢
           refine aY (W := ((([(bt.b, .cells [(iI s.top.code.params), (iI s.top.code.regs), (.slice ba s.top.code.blocks.length bk), (.slice ra s.top.regs.length rk), (.slice aa s.top.args.length ak), (iI s.top.blk), (iI (s.top.at_ + 1)), (iI s.top.to_)] none false)] : Fp) ++ pg).map Prod.fst)) (ay rfl rfl rfl) rfl rfl rfl (il ex s.top.regs ((s.top.code.blocks.getD s.top.blk.toNat default).ins.getD s.top.at_.toNat default).i.a (bC s.top.regs ((s.top.code.blocks.getD s.top.blk.toNat default).ins.getD s.top.at_.toNat default).i.b) (HS.call2 hl.log0 (i := 5) (j := 6) (by decide) rfl rfl) x2 (by first | omega | exact hgr _ | exact aj wf.rows _ | (dsimp only; omega)) (by first | omega | exact hgr _ | exact aj wf.rows _ | (dsimp only; omega)) (by first | omega | exact hgr _ | exact dO (hgr _) | exact eA | exact cB _)) (⟨.inl rfl, ⟨.inl rfl, ⟨.inl rfl, ⟨.inl rfl, ⟨.inl rfl, ⟨.inl rfl, ⟨.inl rfl, trivial⟩⟩⟩⟩⟩⟩⟩) ?_
           rintro _ nV ⟨nh, nD, nt, mV, pW, co, b3, rfl, mj⟩
           refine ⟨HS.didW b3, fun mE li => ?_⟩
           replace b3 := HS.back2 hl.log0 (i := 5) (j := 6) (by decide) rfl rfl rfl (fun _ hb => hb) b3
           replace b3 := HS.lg b3 hl li
           generalize ({ nV with log := mE } : Heap) = pf at b3 ⊢
           have b3 : HS _ _ _ [es, pc, pr, pp, pl, [(bt.b, .cells [(iI s.top.code.params), (iI s.top.code.regs), (.slice ba s.top.code.blocks.length bk), (.slice nh nD nt), (.slice aa s.top.args.length ak), (iI s.top.blk), (iI (s.top.at_ + 1)), (iI s.top.to_)] none false)], mV, po, I, A, av] _ := b3
           replace U := U.mono co
           replace Z := Z.mono co
           replace T := T.mono co
           replace y3 := y3.mono co
           replace V := V.mono co
           replace y2 := SF.mono co y2
           replace y4 := FAM.mono (fun k => CR.mono co k) y4
           refine bX ?_
           refine aw 1 rfl ?_
           exact aA ⟨.inl rfl, _, rfl, rfl, RunP.mk (bt := bt) (L := [I, A, av]) (by unfold bD; dsimp only [el, e9, b8]; (repeat (first | rw [if_pos (by omega)] | rw [if_neg (by omega)] | rw [if_pos hlow] | rw [if_neg hlow] | (unfold cr; dsimp only [goT, az]) | (unfold fD; dsimp only [az]) | (unfold fe; dsimp only [cv, az]) | (unfold fb; dsimp only [cv, az]) | (unfold cu; dsimp only [az]))); first | done | rfl | rw [hmap]) b3 (co) T y2 y3 y4 V y7 U mj Z⟩
          ·
           try simp only [BS] at h8
           exact aA ⟨.inl rfl, _, rfl, rfl, RunP.mk (bt := bt) (L := [I, A, av]) (by unfold bD; dsimp only [el, e9, b8]; (repeat (first | rw [if_pos (by omega)] | rw [if_neg (by omega)] | rw [if_pos hlow] | rw [if_neg hlow] | (unfold cr; dsimp only [goT, az]) | (unfold fD; dsimp only [az]) | (unfold fe; dsimp only [cv, az]) | (unfold fb; dsimp only [cv, az]) | (unfold cu; dsimp only [az]))); first | done | rfl | rw [hmap]) z fR T y2 y3 y4 V y7 U x2 Z⟩
         ·
          try simp only [BS] at h7
          refine wR 1 [] 66 67 [] [(66, (.bool (((s.top.code.blocks.getD s.top.blk.toNat default).ins.getD s.top.at_.toNat default).i.op == 12)))] trivial rfl fun _ => ?_
          refine au 1 1 (v := (((s.top.code.blocks.getD s.top.blk.toNat default).ins.getD s.top.at_.toNat default).i.op == 12)) rfl rfl rfl rfl (fun ih => ?_) (fun ih => ?_)
          ·
           try simp only [BS] at ih
           refine wR 1 [(2, .o (iI ((s.top.code.blocks.getD s.top.blk.toNat default).ins.getD s.top.at_.toNat default).i.c)), (3, .o (iI (bC s.top.regs ((s.top.code.blocks.getD s.top.blk.toNat default).ins.getD s.top.at_.toNat default).i.c)))] 68 72 [] [(72, (.bool (bC s.top.regs ((s.top.code.blocks.getD s.top.blk.toNat default).ins.getD s.top.at_.toNat default).i.c != 0)))] (vA (ql 3 3 (HS.hc z (i := 10) rfl) rfl rfl) (vA (ic.eJ ex s.top.regs ((s.top.code.blocks.getD s.top.blk.toNat default).ins.getD s.top.at_.toNat default).i.c dk (HS.hc z (i := 5) rfl) (OS.sv x2 z (i := 6) rfl) (by first | omega | exact hgr _ | exact aj wf.rows _ | (dsimp only; omega)) (by first | omega | exact hgr _ | exact aj wf.rows _ | (dsimp only; omega))) trivial)) rfl fun _ => ?_
           refine au 0 1 (v := (bC s.top.regs ((s.top.code.blocks.getD s.top.blk.toNat default).ins.getD s.top.at_.toNat default).i.c != 0)) rfl rfl rfl rfl (fun ik => ?_) (fun ik => ?_)
           ·
            try simp only [BS] at ik
            refine aP rfl ?_
            refine fm (.pointer (some ⟨bt.b, 0, none⟩)) rfl rfl rfl ?_
            refine ai (v := (.pointer (some ⟨E, 1, none⟩))) (id := .v) (aZ rfl rfl) rfl rfl (aG rfl) (aF _) ?_
            refine ai (v := (iI ((s.top.code.blocks.getD s.top.blk.toNat default).ins.getD s.top.at_.toNat default).i.a)) (id := .l E) (aT (i := 1) rfl rfl (HS.hc z.log0 (i := 10) rfl) rfl rfl) rfl rfl (bj rfl) (⟨.inl rfl, ⟨.inr trivial, trivial⟩⟩) ?_
            refine fm (.pointer (some ⟨bt.b, 0, none⟩)) rfl rfl rfl ?_
            refine ai (v := (.pointer (some ⟨E, 2, none⟩))) (id := .v) (aZ rfl rfl) rfl rfl (aG rfl) (aF _) ?_
            refine ai (v := (iI ((s.top.code.blocks.getD s.top.blk.toNat default).ins.getD s.top.at_.toNat default).i.b)) (id := .l E) (aT (i := 2) rfl rfl (HS.hc z.log0 (i := 10) rfl) rfl rfl) rfl rfl (bj rfl) (⟨.inl rfl, ⟨.inr trivial, ⟨.inr trivial, ⟨.inr trivial, ⟨.inr trivial, trivial⟩⟩⟩⟩⟩) ?_
            refine aY (W := []) (ay rfl rfl rfl) rfl rfl rfl (ic.iX ex s.top.regs ((s.top.code.blocks.getD s.top.blk.toNat default).ins.getD s.top.at_.toNat default).i.b _ (HS.hc z.log0 (i := 5) rfl) (OS.sv x2 z.log0 (i := 6) rfl) (by first | omega | exact hgr _ | exact aj wf.rows _ | (dsimp only; omega)) (by first | omega | exact hgr _ | exact aj wf.rows _ | (dsimp only; omega))) (⟨.inl rfl, ⟨.inl rfl, ⟨.inl rfl, ⟨.inr List.not_mem_nil, ⟨.inr trivial, ⟨.inr trivial, trivial⟩⟩⟩⟩⟩⟩) ?_
            rintro _ _ ⟨qK, rfl, rfl, rfl⟩
            refine ⟨fun b hb => absurd hb List.not_mem_nil, fun mF lj => ?_⟩
            have hm := HS.lg z.log0 z lj
            generalize ({ { dk with log := [] } with log := mF } : Heap) = ph at hm ⊢
            refine aY (W := ((([(bt.b, .cells [(iI s.top.code.params), (iI s.top.code.regs), (.slice ba s.top.code.blocks.length bk), (.slice ra s.top.regs.length rk), (.slice aa s.top.args.length ak), (iI s.top.blk), (iI (s.top.at_ + 1)), (iI s.top.to_)] none false)] : Fp) ++ pg).map Prod.fst)) (ay rfl rfl rfl) rfl rfl rfl (il ex s.top.regs ((s.top.code.blocks.getD s.top.blk.toNat default).ins.getD s.top.at_.toNat default).i.a (bC s.top.regs ((s.top.code.blocks.getD s.top.blk.toNat default).ins.getD s.top.at_.toNat default).i.b) (HS.call2 hm.log0 (i := 5) (j := 6) (by decide) rfl rfl) x2 (by first | omega | exact hgr _ | exact aj wf.rows _ | (dsimp only; omega)) (by first | omega | exact hgr _ | exact aj wf.rows _ | (dsimp only; omega)) (by first | omega | exact hgr _ | exact dO (hgr _) | exact eA | exact cB _)) (⟨.inl rfl, ⟨.inl rfl, ⟨.inl rfl, ⟨.inl rfl, ⟨.inl rfl, ⟨.inl rfl, ⟨.inl rfl, trivial⟩⟩⟩⟩⟩⟩⟩) ?_
            rintro _ nW ⟨ni, nE, nu, mW, pX, c0, b4, rfl, ml⟩
            refine ⟨HS.didW b4, fun mG ll => ?_⟩
            replace b4 := HS.back2 hm.log0 (i := 5) (j := 6) (by decide) rfl rfl rfl (fun _ hb => hb) b4
            replace b4 := HS.lg b4 hm ll
            generalize ({ nW with log := mG } : Heap) = pi at b4 ⊢
            have b4 : HS _ _ _ [es, pc, pr, pp, pl, [(bt.b, .cells [(iI s.top.code.params), (iI s.top.code.regs), (.slice ba s.top.code.blocks.length bk), (.slice ni nE nu), (.slice aa s.top.args.length ak), (iI s.top.blk), (iI (s.top.at_ + 1)), (iI s.top.to_)] none false)], mW, po, I, A, av] _ := b4
            replace U := U.mono c0
            replace Z := Z.mono c0
            replace T := T.mono c0
            replace y3 := y3.mono c0
            replace V := V.mono c0
            replace y2 := SF.mono c0 y2
            replace y4 := FAM.mono (fun k => CR.mono c0 k) y4
            refine bX ?_
            refine aw 1 rfl ?_
            exact aA ⟨.inl rfl, _, rfl, rfl, RunP.mk (bt := bt) (L := [I, A, av]) (by unfold bD; dsimp only [el, e9, b8]; (repeat (first | rw [if_pos (by omega)] | rw [if_neg (by omega)] | rw [if_pos hlow] | rw [if_neg hlow] | (unfold cr; dsimp only [goT, az]) | (unfold fD; dsimp only [az]) | (unfold fe; dsimp only [cv, az]) | (unfold fb; dsimp only [cv, az]) | (unfold cu; dsimp only [az]))); first | done | rfl | rw [hmap]) b4 (c0) T y2 y3 y4 V y7 U ml Z⟩
           ·
            try simp only [BS] at ik
            exact aA ⟨.inl rfl, _, rfl, rfl, RunP.mk (bt := bt) (L := [I, A, av]) (by unfold bD; dsimp only [el, e9, b8]; (repeat (first | rw [if_pos (by omega)] | rw [if_neg (by omega)] | rw [if_pos hlow] | rw [if_neg hlow] | (unfold cr; dsimp only [goT, az]) | (unfold fD; dsimp only [az]) | (unfold fe; dsimp only [cv, az]) | (unfold fb; dsimp only [cv, az]) | (unfold cu; dsimp only [az]))); first | done | rfl | rw [hmap]) z fR T y2 y3 y4 V y7 U x2 Z⟩
          ·
           try simp only [BS] at ih
           refine wR 1 [] 81 82 [] [(81, (.bool (((s.top.code.blocks.getD s.top.blk.toNat default).ins.getD s.top.at_.toNat default).i.op == 13)))] trivial rfl fun _ => ?_
           refine au 0 1 (v := (((s.top.code.blocks.getD s.top.blk.toNat default).ins.getD s.top.at_.toNat default).i.op == 13)) rfl rfl rfl rfl (fun iv => ?_) (fun iv => ?_)
           ·
            try simp only [BS] at iv
            refine ah ?_
            refine wRo 5 0 [(2, .o (iI ((s.top.code.blocks.getD s.top.blk.toNat default).ins.getD s.top.at_.toNat default).i.a)), (4, .o (iI ((s.top.code.blocks.getD s.top.blk.toNat default).ins.getD s.top.at_.toNat default).i.n))] 83 87 [] [(83, (.pointer (some ⟨bt.b, 0, none⟩))), (85, (iI ((s.top.code.blocks.getD s.top.blk.toNat default).ins.getD s.top.at_.toNat default).i.a)), (87, (iI ((s.top.code.blocks.getD s.top.blk.toNat default).ins.getD s.top.at_.toNat default).i.n))] (vA (ql 3 1 (HS.hc z (i := 10) rfl) rfl rfl) (vA (ql 2 4 (HS.hc z (i := 10) rfl) rfl rfl) trivial)) rfl fun _ => ?_
            refine aJ (ay rfl rfl rfl) rfl rfl (il ex s.top.regs ((s.top.code.blocks.getD s.top.blk.toNat default).ins.getD s.top.at_.toNat default).i.a ((s.top.code.blocks.getD s.top.blk.toNat default).ins.getD s.top.at_.toNat default).i.n (HS.call2 z (i := 5) (j := 6) (by decide) rfl rfl) x2 (by first | omega | exact hgr _ | exact aj wf.rows _ | (dsimp only; omega)) (by first | omega | exact hgr _ | exact aj wf.rows _ | (dsimp only; omega)) (by first | omega | exact hgr _ | exact dO (hgr _) | exact eA | exact cB _)) ?_
            rintro _ qa ⟨nj, nF, nv, mX, pY, c3, g5, rfl, mn⟩
            replace g5 := HS.back2 z (i := 5) (j := 6) (by decide) rfl rfl rfl (fun _ hb => hb) g5
            have g5 : HS _ _ _ [es, pc, pr, pp, pl, [(bt.b, .cells [(iI s.top.code.params), (iI s.top.code.regs), (.slice ba s.top.code.blocks.length bk), (.slice nj nF nv), (.slice aa s.top.args.length ak), (iI s.top.blk), (iI (s.top.at_ + 1)), (iI s.top.to_)] none false)], mX, po, I, A, av] _ := g5
            replace U := U.mono c3
            replace Z := Z.mono c3
            replace T := T.mono c3
            replace y3 := y3.mono c3
            replace V := V.mono c3
            replace y2 := SF.mono c3 y2
            replace y4 := FAM.mono (fun k => CR.mono c3 k) y4
            refine ao 1 rfl ?_
            exact aA ⟨.inl rfl, _, rfl, rfl, RunP.mk (bt := bt) (L := [I, A, av]) (by unfold bD; dsimp only [el, e9, b8]; (repeat (first | rw [if_pos (by omega)] | rw [if_neg (by omega)] | rw [if_pos hlow] | rw [if_neg hlow] | (unfold cr; dsimp only [goT, az]) | (unfold fD; dsimp only [az]) | (unfold fe; dsimp only [cv, az]) | (unfold fb; dsimp only [cv, az]) | (unfold cu; dsimp only [az]))); first | done | rfl | rw [hmap]) g5 (c3) T y2 y3 y4 V y7 U mn Z⟩
           ·
            try simp only [BS] at iv
            refine wR 1 [] 89 90 [] [(89, (.bool (((s.top.code.blocks.getD s.top.blk.toNat default).ins.getD s.top.at_.toNat default).i.op == 38)))] trivial rfl fun _ => ?_
            refine au 0 1 (v := (((s.top.code.blocks.getD s.top.blk.toNat default).ins.getD s.top.at_.toNat default).i.op == 38)) rfl rfl rfl rfl (fun i1 => ?_) (fun i1 => ?_)
            ·
             try simp only [BS] at i1
             refine aP rfl ?_
             refine fm (.pointer (some ⟨bt.b, 0, none⟩)) rfl rfl rfl ?_
             refine ai (v := (.pointer (some ⟨E, 1, none⟩))) (id := .v) (aZ rfl rfl) rfl rfl (aG rfl) (aF _) ?_
             refine ai (v := (iI ((s.top.code.blocks.getD s.top.blk.toNat default).ins.getD s.top.at_.toNat default).i.a)) (id := .l E) (aT (i := 1) rfl rfl (HS.hc z.log0 (i := 10) rfl) rfl rfl) rfl rfl (bj rfl) (⟨.inl rfl, ⟨.inr trivial, trivial⟩⟩) ?_
             refine fm (.pointer (some ⟨bt.b, 0, none⟩)) rfl rfl rfl ?_
             refine ai (v := (.pointer (some ⟨bt.b, 0, none⟩))) (id := .v) (bN rfl) rfl rfl (aG rfl) (aF _) ?_
             refine ai (v := (.pointer (some ⟨bt.b, 4, none⟩))) (id := .v) (aZ rfl rfl) rfl rfl (aG rfl) (aF _) ?_
             refine ai (v := (.slice aa s.top.args.length ak)) (id := .l bt.b) (aT (i := 4) rfl rfl (HS.hc z.log0 (i := 5) rfl) rfl rfl) rfl rfl (bj rfl) (⟨.inl rfl, ⟨.inl rfl, ⟨.inl rfl, ⟨.inr trivial, ⟨.inr trivial, ⟨.inr trivial, trivial⟩⟩⟩⟩⟩⟩) ?_
             refine ai (v := (.pointer (some ⟨E, 4, none⟩))) (id := .v) (aZ rfl rfl) rfl rfl (aG rfl) (aF _) ?_
             refine ai (v := (iI ((s.top.code.blocks.getD s.top.blk.toNat default).ins.getD s.top.at_.toNat default).i.n)) (id := .l E) (aT (i := 4) rfl rfl (HS.hc z.log0 (i := 10) rfl) rfl rfl) rfl rfl (bj rfl) (⟨.inl rfl, ⟨.inr trivial, ⟨.inr trivial, ⟨.inr trivial, ⟨.inr trivial, ⟨.inr trivial, ⟨.inr trivial, ⟨.inr trivial, trivial⟩⟩⟩⟩⟩⟩⟩⟩) ?_
             refine ai (v := (.pointer (some ⟨sB (.slice aa s.top.args.length ak), sO (.slice aa s.top.args.length ak) + ((s.top.code.blocks.getD s.top.blk.toNat default).ins.getD s.top.at_.toNat default).i.n.toNat * Rp.sz Int, none⟩))) (id := .v) (dX (α := Int) (j := ((s.top.code.blocks.getD s.top.blk.toNat default).ins.getD s.top.at_.toNat default).i.n) rfl rfl rfl rfl (SR.sv Z z.log0) (by first | omega | exact hgr _ | exact aj wf.rows _ | (dsimp only; omega)) (by first | omega | exact hgr _ | exact aj wf.rows _ | (dsimp only; omega))) rfl rfl (aG rfl) (aF _) ?_
             obtain ⟨pB, mo, l1⟩ := Sv.at (SR.sv Z z.log0) (cN (x := (0 : Int)) (show ((s.top.code.blocks.getD s.top.blk.toNat default).ins.getD s.top.at_.toNat default).i.n.toNat < s.top.args.length from by first | omega | exact hgr _ | exact aj wf.rows _ | (dsimp only; omega)))
             obtain ⟨rfl, oW⟩ := mo
             refine ai (v := (iI (s.top.args.getD ((s.top.code.blocks.getD s.top.blk.toNat default).ins.getD s.top.at_.toNat default).i.n.toNat 0))) (id := .l (sB (.slice aa s.top.args.length ak))) (aT (i := 0) rfl rfl l1 rfl rfl) rfl rfl (bj rfl) (⟨.inl rfl, ⟨.inl rfl, ⟨.inl rfl, ⟨.inl rfl, ⟨.inl rfl, ⟨.inl rfl, ⟨.inl rfl, ⟨.inr trivial, ⟨.inr trivial, ⟨.inr trivial, trivial⟩⟩⟩⟩⟩⟩⟩⟩⟩⟩) ?_
             refine aY (W := ((([(bt.b, .cells [(iI s.top.code.params), (iI s.top.code.regs), (.slice ba s.top.code.blocks.length bk), (.slice ra s.top.regs.length rk), (.slice aa s.top.args.length ak), (iI s.top.blk), (iI (s.top.at_ + 1)), (iI s.top.to_)] none false)] : Fp) ++ pg).map Prod.fst)) (ay rfl rfl rfl) rfl rfl rfl (il ex s.top.regs ((s.top.code.blocks.getD s.top.blk.toNat default).ins.getD s.top.at_.toNat default).i.a (s.top.args.getD ((s.top.code.blocks.getD s.top.blk.toNat default).ins.getD s.top.at_.toNat default).i.n.toNat 0) (HS.call2 z.log0 (i := 5) (j := 6) (by decide) rfl rfl) x2 (by first | omega | exact hgr _ | exact aj wf.rows _ | (dsimp only; omega)) (by first | omega | exact hgr _ | exact aj wf.rows _ | (dsimp only; omega)) (by first | omega | exact hgr _ | exact dO (hgr _) | exact eA | exact cB _)) (⟨.inl rfl, ⟨.inl rfl, ⟨.inl rfl, ⟨.inl rfl, ⟨.inl rfl, ⟨.inl rfl, ⟨.inl rfl, ⟨.inl rfl, ⟨.inl rfl, ⟨.inl rfl, ⟨.inl rfl, trivial⟩⟩⟩⟩⟩⟩⟩⟩⟩⟩⟩) ?_
             rintro _ nX ⟨nk, nG, nw, mY, pZ, c4, b6, rfl, mp⟩
             refine ⟨HS.didW b6, fun mH lm => ?_⟩
             replace b6 := HS.back2 z.log0 (i := 5) (j := 6) (by decide) rfl rfl rfl (fun _ hb => hb) b6
             replace b6 := HS.lg b6 z lm
             generalize ({ nX with log := mH } : Heap) = pj at b6 ⊢
             have b6 : HS _ _ _ [es, pc, pr, pp, pl, [(bt.b, .cells [(iI s.top.code.params), (iI s.top.code.regs), (.slice ba s.top.code.blocks.length bk), (.slice nk nG nw), (.slice aa s.top.args.length ak), (iI s.top.blk), (iI (s.top.at_ + 1)), (iI s.top.to_)] none false)], mY, po, I, A, av] _ := b6
             replace U := U.mono c4
             replace Z := Z.mono c4
             replace T := T.mono c4
             replace y3 := y3.mono c4
             replace V := V.mono c4
             replace y2 := SF.mono c4 y2
             replace y4 := FAM.mono (fun k => CR.mono c4 k) y4
             refine bX ?_
             refine aw 1 rfl ?_
             exact aA ⟨.inl rfl, _, rfl, rfl, RunP.mk (bt := bt) (L := [I, A, av]) (by unfold bD; dsimp only [el, e9, b8]; (repeat (first | rw [if_pos (by omega)] | rw [if_neg (by omega)] | rw [if_pos hlow] | rw [if_neg hlow] | (unfold cr; dsimp only [goT, az]) | (unfold fD; dsimp only [az]) | (unfold fe; dsimp only [cv, az]) | (unfold fb; dsimp only [cv, az]) | (unfold cu; dsimp only [az]))); first | done | rfl | rw [hmap]) b6 (c4) T y2 y3 y4 V y7 U mp Z⟩
            ·
             try simp only [BS] at i1
             refine wR 1 [] 103 104 [] [(103, (.bool (((s.top.code.blocks.getD s.top.blk.toNat default).ins.getD s.top.at_.toNat default).i.op == 15)))] trivial rfl fun _ => ?_
             refine au 0 1 (v := (((s.top.code.blocks.getD s.top.blk.toNat default).ins.getD s.top.at_.toNat default).i.op == 15)) rfl rfl rfl rfl (fun i2 => ?_) (fun i2 => ?_)
             ·
              try simp only [BS] at i2
              refine aP rfl ?_
              refine fm (.pointer (some ⟨bt.b, 0, none⟩)) rfl rfl rfl ?_
              refine ai (v := (.pointer (some ⟨E, 1, none⟩))) (id := .v) (aZ rfl rfl) rfl rfl (aG rfl) (aF _) ?_
              refine ai (v := (iI ((s.top.code.blocks.getD s.top.blk.toNat default).ins.getD s.top.at_.toNat default).i.a)) (id := .l E) (aT (i := 1) rfl rfl (HS.hc z.log0 (i := 10) rfl) rfl rfl) rfl rfl (bj rfl) (⟨.inl rfl, ⟨.inr trivial, trivial⟩⟩) ?_
              refine fm (.pointer (some ⟨bt.b, 0, none⟩)) rfl rfl rfl ?_
              refine ai (v := (.pointer (some ⟨E, 1, none⟩))) (id := .v) (aZ rfl rfl) rfl rfl (aG rfl) (aF _) ?_
              refine ai (v := (iI ((s.top.code.blocks.getD s.top.blk.toNat default).ins.getD s.top.at_.toNat default).i.a)) (id := .l E) (aT (i := 1) rfl rfl (HS.hc z.log0 (i := 10) rfl) rfl rfl) rfl rfl (bj rfl) (⟨.inl rfl, ⟨.inr trivial, ⟨.inr trivial, ⟨.inr trivial, ⟨.inr trivial, trivial⟩⟩⟩⟩⟩) ?_
              refine aY (W := []) (ay rfl rfl rfl) rfl rfl rfl (ic.iX ex s.top.regs ((s.top.code.blocks.getD s.top.blk.toNat default).ins.getD s.top.at_.toNat default).i.a _ (HS.hc z.log0 (i := 5) rfl) (OS.sv x2 z.log0 (i := 6) rfl) (by first | omega | exact hgr _ | exact aj wf.rows _ | (dsimp only; omega)) (by first | omega | exact hgr _ | exact aj wf.rows _ | (dsimp only; omega))) (⟨.inl rfl, ⟨.inl rfl, ⟨.inl rfl, ⟨.inr List.not_mem_nil, ⟨.inr trivial, ⟨.inr trivial, trivial⟩⟩⟩⟩⟩⟩) ?_
              rintro _ _ ⟨qL, rfl, rfl, rfl⟩
              refine ⟨fun b hb => absurd hb List.not_mem_nil, fun mI ln => ?_⟩
              have hS := HS.lg z.log0 z ln
              generalize ({ { dk with log := [] } with log := mI } : Heap) = lS at hS ⊢
              refine aY (W := []) (ay rfl rfl rfl) rfl rfl rfl (iw.un_c ex (20) (bC s.top.regs ((s.top.code.blocks.getD s.top.blk.toNat default).ins.getD s.top.at_.toNat default).i.a) _) (⟨.inl rfl, ⟨.inl rfl, ⟨.inl rfl, ⟨.inl rfl, ⟨.inr List.not_mem_nil, ⟨.inr trivial, ⟨.inr trivial, trivial⟩⟩⟩⟩⟩⟩⟩) ?_
              rintro _ _ ⟨qM, rfl, rfl, rfl⟩
              refine ⟨fun b hb => absurd hb List.not_mem_nil, fun mJ lp => ?_⟩
              have hn := HS.lg hS.log0 hS lp
              generalize ({ { lS with log := [] } with log := mJ } : Heap) = pm at hn ⊢
              refine aY (W := ((([(bt.b, .cells [(iI s.top.code.params), (iI s.top.code.regs), (.slice ba s.top.code.blocks.length bk), (.slice ra s.top.regs.length rk), (.slice aa s.top.args.length ak), (iI s.top.blk), (iI (s.top.at_ + 1)), (iI s.top.to_)] none false)] : Fp) ++ pg).map Prod.fst)) (ay rfl rfl rfl) rfl rfl rfl (il ex s.top.regs ((s.top.code.blocks.getD s.top.blk.toNat default).ins.getD s.top.at_.toNat default).i.a (unV (20 : Int) (bC s.top.regs ((s.top.code.blocks.getD s.top.blk.toNat default).ins.getD s.top.at_.toNat default).i.a)) (HS.call2 hn.log0 (i := 5) (j := 6) (by decide) rfl rfl) x2 (by first | omega | exact hgr _ | exact aj wf.rows _ | (dsimp only; omega)) (by first | omega | exact hgr _ | exact aj wf.rows _ | (dsimp only; omega)) (by first | omega | exact hgr _ | exact dO (hgr _) | exact eA | exact cB _)) (⟨.inl rfl, ⟨.inl rfl, ⟨.inl rfl, ⟨.inl rfl, ⟨.inl rfl, ⟨.inl rfl, ⟨.inl rfl, ⟨.inl rfl, trivial⟩⟩⟩⟩⟩⟩⟩⟩) ?_
              rintro _ nY ⟨nm, nH, nx, mZ, p0, c5, b7, rfl, mq⟩
              refine ⟨HS.didW b7, fun mK lq => ?_⟩
              replace b7 := HS.back2 hn.log0 (i := 5) (j := 6) (by decide) rfl rfl rfl (fun _ hb => hb) b7
              replace b7 := HS.lg b7 hn lq
              generalize ({ nY with log := mK } : Heap) = pq at b7 ⊢
              have b7 : HS _ _ _ [es, pc, pr, pp, pl, [(bt.b, .cells [(iI s.top.code.params), (iI s.top.code.regs), (.slice ba s.top.code.blocks.length bk), (.slice nm nH nx), (.slice aa s.top.args.length ak), (iI s.top.blk), (iI (s.top.at_ + 1)), (iI s.top.to_)] none false)], mZ, po, I, A, av] _ := b7
              replace U := U.mono c5
              replace Z := Z.mono c5
              replace T := T.mono c5
              replace y3 := y3.mono c5
              replace V := V.mono c5
              replace y2 := SF.mono c5 y2
              replace y4 := FAM.mono (fun k => CR.mono c5 k) y4
              refine bX ?_
              refine aw 1 rfl ?_
              exact aA ⟨.inl rfl, _, rfl, rfl, RunP.mk (bt := bt) (L := [I, A, av]) (by unfold bD; dsimp only [el, e9, b8]; (repeat (first | rw [if_pos (by omega)] | rw [if_neg (by omega)] | rw [if_pos hlow] | rw [if_neg hlow] | (unfold cr; dsimp only [goT, az]) | (unfold fD; dsimp only [az]) | (unfold fe; dsimp only [cv, az]) | (unfold fb; dsimp only [cv, az]) | (unfold cu; dsimp only [az]))); first | done | rfl | rw [hmap]) b7 (c5) T y2 y3 y4 V y7 U mq Z⟩
             ·
              try simp only [BS] at i2
              refine wR 1 [] 114 115 [] [(114, (.bool (((s.top.code.blocks.getD s.top.blk.toNat default).ins.getD s.top.at_.toNat default).i.op == 16)))] trivial rfl fun _ => ?_
              refine au 0 1 (v := (((s.top.code.blocks.getD s.top.blk.toNat default).ins.getD s.top.at_.toNat default).i.op == 16)) rfl rfl rfl rfl (fun i3 => ?_) (fun i3 => ?_)
              ·
               try simp only [BS] at i3
               refine aP rfl ?_
               refine fm (.pointer (some ⟨bt.b, 0, none⟩)) rfl rfl rfl ?_
               refine ai (v := (.pointer (some ⟨E, 1, none⟩))) (id := .v) (aZ rfl rfl) rfl rfl (aG rfl) (aF _) ?_
               refine ai (v := (iI ((s.top.code.blocks.getD s.top.blk.toNat default).ins.getD s.top.at_.toNat default).i.a)) (id := .l E) (aT (i := 1) rfl rfl (HS.hc z.log0 (i := 10) rfl) rfl rfl) rfl rfl (bj rfl) (⟨.inl rfl, ⟨.inr trivial, trivial⟩⟩) ?_
               refine fm (.pointer (some ⟨bt.b, 0, none⟩)) rfl rfl rfl ?_
               refine ai (v := (.pointer (some ⟨E, 1, none⟩))) (id := .v) (aZ rfl rfl) rfl rfl (aG rfl) (aF _) ?_
               refine ai (v := (iI ((s.top.code.blocks.getD s.top.blk.toNat default).ins.getD s.top.at_.toNat default).i.a)) (id := .l E) (aT (i := 1) rfl rfl (HS.hc z.log0 (i := 10) rfl) rfl rfl) rfl rfl (bj rfl) (⟨.inl rfl, ⟨.inr trivial, ⟨.inr trivial, ⟨.inr trivial, ⟨.inr trivial, trivial⟩⟩⟩⟩⟩) ?_
               refine aY (W := []) (ay rfl rfl rfl) rfl rfl rfl (ic.iX ex s.top.regs ((s.top.code.blocks.getD s.top.blk.toNat default).ins.getD s.top.at_.toNat default).i.a _ (HS.hc z.log0 (i := 5) rfl) (OS.sv x2 z.log0 (i := 6) rfl) (by first | omega | exact hgr _ | exact aj wf.rows _ | (dsimp only; omega)) (by first | omega | exact hgr _ | exact aj wf.rows _ | (dsimp only; omega))) (⟨.inl rfl, ⟨.inl rfl, ⟨.inl rfl, ⟨.inr List.not_mem_nil, ⟨.inr trivial, ⟨.inr trivial, trivial⟩⟩⟩⟩⟩⟩) ?_
               rintro _ _ ⟨qN, rfl, rfl, rfl⟩
               refine ⟨fun b hb => absurd hb List.not_mem_nil, fun mL lr => ?_⟩
               have hT := HS.lg z.log0 z lr
               generalize ({ { dk with log := [] } with log := mL } : Heap) = lT at hT ⊢
               refine aY (W := []) (ay rfl rfl rfl) rfl rfl rfl (iw.un_c ex (21) (bC s.top.regs ((s.top.code.blocks.getD s.top.blk.toNat default).ins.getD s.top.at_.toNat default).i.a) _) (⟨.inl rfl, ⟨.inl rfl, ⟨.inl rfl, ⟨.inl rfl, ⟨.inr List.not_mem_nil, ⟨.inr trivial, ⟨.inr trivial, trivial⟩⟩⟩⟩⟩⟩⟩) ?_
               rintro _ _ ⟨qO, rfl, rfl, rfl⟩
               refine ⟨fun b hb => absurd hb List.not_mem_nil, fun mM lv => ?_⟩
               have ho := HS.lg hT.log0 hT lv
               generalize ({ { lT with log := [] } with log := mM } : Heap) = pt at ho ⊢
               refine aY (W := ((([(bt.b, .cells [(iI s.top.code.params), (iI s.top.code.regs), (.slice ba s.top.code.blocks.length bk), (.slice ra s.top.regs.length rk), (.slice aa s.top.args.length ak), (iI s.top.blk), (iI (s.top.at_ + 1)), (iI s.top.to_)] none false)] : Fp) ++ pg).map Prod.fst)) (ay rfl rfl rfl) rfl rfl rfl (il ex s.top.regs ((s.top.code.blocks.getD s.top.blk.toNat default).ins.getD s.top.at_.toNat default).i.a (unV (21 : Int) (bC s.top.regs ((s.top.code.blocks.getD s.top.blk.toNat default).ins.getD s.top.at_.toNat default).i.a)) (HS.call2 ho.log0 (i := 5) (j := 6) (by decide) rfl rfl) x2 (by first | omega | exact hgr _ | exact aj wf.rows _ | (dsimp only; omega)) (by first | omega | exact hgr _ | exact aj wf.rows _ | (dsimp only; omega)) (by first | omega | exact hgr _ | exact dO (hgr _) | exact eA | exact cB _)) (⟨.inl rfl, ⟨.inl rfl, ⟨.inl rfl, ⟨.inl rfl, ⟨.inl rfl, ⟨.inl rfl, ⟨.inl rfl, ⟨.inl rfl, trivial⟩⟩⟩⟩⟩⟩⟩⟩) ?_
               rintro _ nZ ⟨nn, nI, ny, m0, p1, c6, cd, rfl, mr⟩
               refine ⟨HS.didW cd, fun mN lw => ?_⟩
               replace cd := HS.back2 ho.log0 (i := 5) (j := 6) (by decide) rfl rfl rfl (fun _ hb => hb) cd
               replace cd := HS.lg cd ho lw
               generalize ({ nZ with log := mN } : Heap) = pu at cd ⊢
               have cd : HS _ _ _ [es, pc, pr, pp, pl, [(bt.b, .cells [(iI s.top.code.params), (iI s.top.code.regs), (.slice ba s.top.code.blocks.length bk), (.slice nn nI ny), (.slice aa s.top.args.length ak), (iI s.top.blk), (iI (s.top.at_ + 1)), (iI s.top.to_)] none false)], m0, po, I, A, av] _ := cd
               replace U := U.mono c6
               replace Z := Z.mono c6
               replace T := T.mono c6
               replace y3 := y3.mono c6
               replace V := V.mono c6
               replace y2 := SF.mono c6 y2
               replace y4 := FAM.mono (fun k => CR.mono c6 k) y4
               refine bX ?_
               refine aw 1 rfl ?_
               exact aA ⟨.inl rfl, _, rfl, rfl, RunP.mk (bt := bt) (L := [I, A, av]) (by unfold bD; dsimp only [el, e9, b8]; (repeat (first | rw [if_pos (by omega)] | rw [if_neg (by omega)] | rw [if_pos hlow] | rw [if_neg hlow] | (unfold cr; dsimp only [goT, az]) | (unfold fD; dsimp only [az]) | (unfold fe; dsimp only [cv, az]) | (unfold fb; dsimp only [cv, az]) | (unfold cu; dsimp only [az]))); first | done | rfl | rw [hmap]) cd (c6) T y2 y3 y4 V y7 U mr Z⟩
              ·
               try simp only [BS] at i3
               refine wR 1 [] 125 126 [] [(125, (.bool (((s.top.code.blocks.getD s.top.blk.toNat default).ins.getD s.top.at_.toNat default).i.op == 33)))] trivial rfl fun _ => ?_
               refine au 0 1 (v := (((s.top.code.blocks.getD s.top.blk.toNat default).ins.getD s.top.at_.toNat default).i.op == 33)) rfl rfl rfl rfl (fun ja => ?_) (fun ja => ?_)
               ·
                try simp only [BS] at ja
                refine aP rfl ?_
                refine fm (.pointer (some ⟨bt.b, 0, none⟩)) rfl rfl rfl ?_
                refine ai (v := (.pointer (some ⟨E, 1, none⟩))) (id := .v) (aZ rfl rfl) rfl rfl (aG rfl) (aF _) ?_
                refine ai (v := (iI ((s.top.code.blocks.getD s.top.blk.toNat default).ins.getD s.top.at_.toNat default).i.a)) (id := .l E) (aT (i := 1) rfl rfl (HS.hc z.log0 (i := 10) rfl) rfl rfl) rfl rfl (bj rfl) (⟨.inl rfl, ⟨.inr trivial, trivial⟩⟩) ?_
                refine fm (.pointer (some ⟨bt.b, 0, none⟩)) rfl rfl rfl ?_
                refine ai (v := (.pointer (some ⟨E, 1, none⟩))) (id := .v) (aZ rfl rfl) rfl rfl (aG rfl) (aF _) ?_
                refine ai (v := (iI ((s.top.code.blocks.getD s.top.blk.toNat default).ins.getD s.top.at_.toNat default).i.a)) (id := .l E) (aT (i := 1) rfl rfl (HS.hc z.log0 (i := 10) rfl) rfl rfl) rfl rfl (bj rfl) (⟨.inl rfl, ⟨.inr trivial, ⟨.inr trivial, ⟨.inr trivial, ⟨.inr trivial, trivial⟩⟩⟩⟩⟩) ?_
                refine aY (W := []) (ay rfl rfl rfl) rfl rfl rfl (ic.iX ex s.top.regs ((s.top.code.blocks.getD s.top.blk.toNat default).ins.getD s.top.at_.toNat default).i.a _ (HS.hc z.log0 (i := 5) rfl) (OS.sv x2 z.log0 (i := 6) rfl) (by first | omega | exact hgr _ | exact aj wf.rows _ | (dsimp only; omega)) (by first | omega | exact hgr _ | exact aj wf.rows _ | (dsimp only; omega))) (⟨.inl rfl, ⟨.inl rfl, ⟨.inl rfl, ⟨.inr List.not_mem_nil, ⟨.inr trivial, ⟨.inr trivial, trivial⟩⟩⟩⟩⟩⟩) ?_
                rintro _ _ ⟨qP, rfl, rfl, rfl⟩
                refine ⟨fun b hb => absurd hb List.not_mem_nil, fun mO lx => ?_⟩
                have g6 := HS.lg z.log0 z lx
                generalize ({ { dk with log := [] } with log := mO } : Heap) = pw at g6 ⊢
                refine ai (v := (.pointer (some ⟨E, 4, none⟩))) (id := .v) (aZ rfl rfl) rfl rfl (aG rfl) (aF _) ?_
                refine ai (v := (iI ((s.top.code.blocks.getD s.top.blk.toNat default).ins.getD s.top.at_.toNat default).i.n)) (id := .l E) (aT (i := 4) rfl rfl (HS.hc g6.log0 (i := 10) rfl) rfl rfl) rfl rfl (bj rfl) (⟨.inl rfl, ⟨.inr List.not_mem_nil, ⟨.inr trivial, ⟨.inr trivial, ⟨.inr trivial, ⟨.inr trivial, ⟨.inr trivial, ⟨.inr trivial, trivial⟩⟩⟩⟩⟩⟩⟩⟩) ?_
                refine ai (v := (iI (IntKind.i64.wrap ((bC s.top.regs ((s.top.code.blocks.getD s.top.blk.toNat default).ins.getD s.top.at_.toNat default).i.a) + ((s.top.code.blocks.getD s.top.blk.toNat default).ins.getD s.top.at_.toNat default).i.n)))) (id := .v) (ap_add rfl rfl rfl) rfl rfl (aG rfl) (aF _) ?_
                refine aY (W := ((([(bt.b, .cells [(iI s.top.code.params), (iI s.top.code.regs), (.slice ba s.top.code.blocks.length bk), (.slice ra s.top.regs.length rk), (.slice aa s.top.args.length ak), (iI s.top.blk), (iI (s.top.at_ + 1)), (iI s.top.to_)] none false)] : Fp) ++ pg).map Prod.fst)) (ay rfl rfl rfl) rfl rfl rfl (il ex s.top.regs ((s.top.code.blocks.getD s.top.blk.toNat default).ins.getD s.top.at_.toNat default).i.a (IntKind.i64.wrap ((bC s.top.regs ((s.top.code.blocks.getD s.top.blk.toNat default).ins.getD s.top.at_.toNat default).i.a) + ((s.top.code.blocks.getD s.top.blk.toNat default).ins.getD s.top.at_.toNat default).i.n)) (HS.call2 g6.log0 (i := 5) (j := 6) (by decide) rfl rfl) x2 (by first | omega | exact hgr _ | exact aj wf.rows _ | (dsimp only; omega)) (by first | omega | exact hgr _ | exact aj wf.rows _ | (dsimp only; omega)) (by first | omega | exact hgr _ | exact dO (hgr _) | exact eA | exact cB _)) (⟨.inl rfl, ⟨.inl rfl, ⟨.inl rfl, ⟨.inl rfl, ⟨.inl rfl, ⟨.inl rfl, ⟨.inl rfl, ⟨.inl rfl, ⟨.inl rfl, ⟨.inl rfl, trivial⟩⟩⟩⟩⟩⟩⟩⟩⟩⟩) ?_
                rintro _ n1 ⟨np, nJ, nz, m9, p2, c7, ch, rfl, ms⟩
                refine ⟨HS.didW ch, fun mP ly => ?_⟩
                replace ch := HS.back2 g6.log0 (i := 5) (j := 6) (by decide) rfl rfl rfl (fun _ hb => hb) ch
                replace ch := HS.lg ch g6 ly
                generalize ({ n1 with log := mP } : Heap) = px at ch ⊢
                have ch : HS _ _ _ [es, pc, pr, pp, pl, [(bt.b, .cells [(iI s.top.code.params), (iI s.top.code.regs), (.slice ba s.top.code.blocks.length bk), (.slice np nJ nz), (.slice aa s.top.args.length ak), (iI s.top.blk), (iI (s.top.at_ + 1)), (iI s.top.to_)] none false)], m9, po, I, A, av] _ := ch
                replace U := U.mono c7
                replace Z := Z.mono c7
                replace T := T.mono c7
                replace y3 := y3.mono c7
                replace V := V.mono c7
                replace y2 := SF.mono c7 y2
                replace y4 := FAM.mono (fun k => CR.mono c7 k) y4
                refine bX ?_
                refine aw 1 rfl ?_
                exact aA ⟨.inl rfl, _, rfl, rfl, RunP.mk (bt := bt) (L := [I, A, av]) (by unfold bD; dsimp only [el, e9, b8]; (repeat (first | rw [if_pos (by omega)] | rw [if_neg (by omega)] | rw [if_pos hlow] | rw [if_neg hlow] | (unfold cr; dsimp only [goT, az]) | (unfold fD; dsimp only [az]) | (unfold fe; dsimp only [cv, az]) | (unfold fb; dsimp only [cv, az]) | (unfold cu; dsimp only [az]))); first | done | rfl | rw [hmap]) ch (c7) T y2 y3 y4 V y7 U ms Z⟩
               ·
                try simp only [BS] at ja
                refine wR 3 [(2, .o (iI ((s.top.code.blocks.getD s.top.blk.toNat default).ins.getD s.top.at_.toNat default).i.b)), (3, .o (iI (bC s.top.regs ((s.top.code.blocks.getD s.top.blk.toNat default).ins.getD s.top.at_.toNat default).i.b)))] 9 12 [6] [(6, (iI (bC s.top.regs ((s.top.code.blocks.getD s.top.blk.toNat default).ins.getD s.top.at_.toNat default).i.b)))] (vA (ql 3 2 (HS.hc z (i := 10) rfl) rfl rfl) (vA (ic.eJ ex s.top.regs ((s.top.code.blocks.getD s.top.blk.toNat default).ins.getD s.top.at_.toNat default).i.b dk (HS.hc z (i := 5) rfl) (OS.sv x2 z (i := 6) rfl) (by first | omega | exact hgr _ | exact aj wf.rows _ | (dsimp only; omega)) (by first | omega | exact hgr _ | exact aj wf.rows _ | (dsimp only; omega))) trivial)) rfl fun _ => ?_
                refine wR 1 [(1, .o (iI ((s.top.code.blocks.getD s.top.blk.toNat default).ins.getD s.top.at_.toNat default).i.op)), (5, .o (iI ((s.top.code.blocks.getD s.top.blk.toNat default).ins.getD s.top.at_.toNat default).i.op))] 13 24 [] [(24, (.bool (((((s.top.code.blocks.getD s.top.blk.toNat default).ins.getD s.top.at_.toNat default).i.op == 20) || (((s.top.code.blocks.getD s.top.blk.toNat default).ins.getD s.top.at_.toNat default).i.op == 21)) && (bC s.top.regs ((s.top.code.blocks.getD s.top.blk.toNat default).ins.getD s.top.at_.toNat default).i.b == 0))))] (vA (ql 3 0 (HS.hc z (i := 10) rfl) rfl rfl) (vA (fun (g1 : (((s.top.code.blocks.getD s.top.blk.toNat default).ins.getD s.top.at_.toNat default).i.op == 20) = false) => (ql 3 0 (HS.hc z (i := 10) rfl) rfl rfl)) trivial)) rfl fun _ => ?_
                refine au 1 1 (v := (((((s.top.code.blocks.getD s.top.blk.toNat default).ins.getD s.top.at_.toNat default).i.op == 20) || (((s.top.code.blocks.getD s.top.blk.toNat default).ins.getD s.top.at_.toNat default).i.op == 21)) && (bC s.top.regs ((s.top.code.blocks.getD s.top.blk.toNat default).ins.getD s.top.at_.toNat default).i.b == 0))) rfl rfl rfl rfl (fun jb => ?_) (fun jb => ?_)
                ·
                 try simp only [BS] at jb
                 refine ah ?_
                 refine wm (.pointer (some ⟨b, 0, none⟩)) rfl rfl rfl ?_
                 refine aJ (ay rfl rfl rfl) rfl rfl (i8 ex (2) (1) (0) (HS.callOwn z (i := 0) rfl)) ?_
                 rintro _ qb ⟨g7, rfl⟩
                 replace g7 := HS.backOwn z (i := 0) rfl rfl (fun _ hb => hb) g7
                 have g7 : HS _ _ _ [[(b, .cells [(.slice la P.length lk), (.slice ca hd.length ck), (.slice pa (ps ++ [bt]).length pk), (iI s.fuel), (.bool true), (iI 2), (iI 1), (.slice oa s.out.length ok), (iI 0)] none false)], pc, pr, pp, pl, [(bt.b, .cells [(iI s.top.code.params), (iI s.top.code.regs), (.slice ba s.top.code.blocks.length bk), (.slice ra s.top.regs.length rk), (.slice aa s.top.args.length ak), (iI s.top.blk), (iI (s.top.at_ + 1)), (iI s.top.to_)] none false)], pg, po, I, A, av] _ := g7
                 refine ao 1 rfl ?_
                 exact am ⟨.inr rfl, _, rfl, rfl, RunP.mk (bt := bt) (L := [I, A, av]) (by unfold bD; dsimp only [el, e9, b8]; (repeat (first | rw [if_pos (by omega)] | rw [if_neg (by omega)] | rw [if_pos hlow] | rw [if_neg hlow] | (unfold cr; dsimp only [goT, az]) | (unfold fD; dsimp only [az]) | (unfold fe; dsimp only [cv, az]) | (unfold fb; dsimp only [cv, az]) | (unfold cu; dsimp only [az]))); first | done | rfl | rw [hmap]) g7 fR T y2 y3 y4 V (by first | exact hgr _ | exact ⟨by decide, by decide⟩ | omega) U x2 Z⟩
                ·
                 try simp only [BS] at jb
                 refine aP rfl ?_
                 refine fm (.pointer (some ⟨bt.b, 0, none⟩)) rfl rfl rfl ?_
                 refine ai (v := (.pointer (some ⟨E, 1, none⟩))) (id := .v) (aZ rfl rfl) rfl rfl (aG rfl) (aF _) ?_
                 refine ai (v := (iI ((s.top.code.blocks.getD s.top.blk.toNat default).ins.getD s.top.at_.toNat default).i.a)) (id := .l E) (aT (i := 1) rfl rfl (HS.hc z.log0 (i := 10) rfl) rfl rfl) rfl rfl (bj rfl) (⟨.inl rfl, ⟨.inr trivial, trivial⟩⟩) ?_
                 refine ai (v := (.pointer (some ⟨E, 0, none⟩))) (id := .v) (aZ rfl rfl) rfl rfl (aG rfl) (aF _) ?_
                 refine ai (v := (iI ((s.top.code.blocks.getD s.top.blk.toNat default).ins.getD s.top.at_.toNat default).i.op)) (id := .l E) (aT (i := 0) rfl rfl (HS.hc z.log0 (i := 10) rfl) rfl rfl) rfl rfl (bj rfl) (⟨.inl rfl, ⟨.inr trivial, ⟨.inr trivial, ⟨.inr trivial, trivial⟩⟩⟩⟩) ?_
                 refine ai (v := (iI (((s.top.code.blocks.getD s.top.blk.toNat default).ins.getD s.top.at_.toNat default).i.op - 17))) (id := .v) (ap_sub rfl rfl (jD (n := ((s.top.code.blocks.getD s.top.blk.toNat default).ins.getD s.top.at_.toNat default).i.op - 17) (by first | omega | exact hgr _ | exact aj wf.rows _ | (dsimp only; omega)))) rfl rfl (aG rfl) (aF _) ?_
                 refine ai (v := (iI ((((s.top.code.blocks.getD s.top.blk.toNat default).ins.getD s.top.at_.toNat default).i.op - 17) + 4))) (id := .v) (ap_add rfl rfl (jD (n := (((s.top.code.blocks.getD s.top.blk.toNat default).ins.getD s.top.at_.toNat default).i.op - 17) + 4) (by first | omega | exact hgr _ | exact aj wf.rows _ | (dsimp only; omega)))) rfl rfl (aG rfl) (aF _) ?_
                 refine fm (.pointer (some ⟨bt.b, 0, none⟩)) rfl rfl rfl ?_
                 refine ai (v := (.pointer (some ⟨E, 1, none⟩))) (id := .v) (aZ rfl rfl) rfl rfl (aG rfl) (aF _) ?_
                 refine ai (v := (iI ((s.top.code.blocks.getD s.top.blk.toNat default).ins.getD s.top.at_.toNat default).i.a)) (id := .l E) (aT (i := 1) rfl rfl (HS.hc z.log0 (i := 10) rfl) rfl rfl) rfl rfl (bj rfl) (⟨.inl rfl, ⟨.inr trivial, ⟨.inr trivial, ⟨.inr trivial, ⟨.inr trivial, ⟨.inr trivial, ⟨.inr trivial, ⟨.inr trivial, ⟨.inr trivial, trivial⟩⟩⟩⟩⟩⟩⟩⟩⟩) ?_
                 refine aY (W := []) (ay rfl rfl rfl) rfl rfl rfl (ic.iX ex s.top.regs ((s.top.code.blocks.getD s.top.blk.toNat default).ins.getD s.top.at_.toNat default).i.a _ (HS.hc z.log0 (i := 5) rfl) (OS.sv x2 z.log0 (i := 6) rfl) (by first | omega | exact hgr _ | exact aj wf.rows _ | (dsimp only; omega)) (by first | omega | exact hgr _ | exact aj wf.rows _ | (dsimp only; omega))) (⟨.inl rfl, ⟨.inl rfl, ⟨.inl rfl, ⟨.inr trivial, ⟨.inr trivial, ⟨.inr List.not_mem_nil, ⟨.inr trivial, ⟨.inr List.not_mem_nil, ⟨.inr trivial, ⟨.inr trivial, trivial⟩⟩⟩⟩⟩⟩⟩⟩⟩⟩) ?_
                 rintro _ _ ⟨qQ, rfl, rfl, rfl⟩
                 refine ⟨fun b hb => absurd hb List.not_mem_nil, fun mQ lz => ?_⟩
                 have hV := HS.lg z.log0 z lz
                 generalize ({ { dk with log := [] } with log := mQ } : Heap) = lU at hV ⊢
                 refine fm (iI (bC s.top.regs ((s.top.code.blocks.getD s.top.blk.toNat default).ins.getD s.top.at_.toNat default).i.b)) rfl rfl rfl ?_
                 refine aY (W := []) (ay rfl rfl rfl) rfl rfl rfl (iw.bin_c ex ((((s.top.code.blocks.getD s.top.blk.toNat default).ins.getD s.top.at_.toNat default).i.op - 17) + 4) (bC s.top.regs ((s.top.code.blocks.getD s.top.blk.toNat default).ins.getD s.top.at_.toNat default).i.a) (bC s.top.regs ((s.top.code.blocks.getD s.top.blk.toNat default).ins.getD s.top.at_.toNat default).i.b) _) (⟨.inl rfl, ⟨.inl rfl, ⟨.inl rfl, ⟨.inl rfl, ⟨.inl rfl, ⟨.inl rfl, ⟨.inl rfl, ⟨.inl rfl, ⟨.inl rfl, ⟨.inr List.not_mem_nil, ⟨.inr trivial, ⟨.inr trivial, trivial⟩⟩⟩⟩⟩⟩⟩⟩⟩⟩⟩⟩) ?_
                 rintro _ _ ⟨qR, rfl, rfl, rfl⟩
                 refine ⟨fun b hb => absurd hb List.not_mem_nil, fun mR lA => ?_⟩
                 have hr := HS.lg hV.log0 hV lA
                 generalize ({ { lU with log := [] } with log := mR } : Heap) = py at hr ⊢
                 refine aY (W := ((([(bt.b, .cells [(iI s.top.code.params), (iI s.top.code.regs), (.slice ba s.top.code.blocks.length bk), (.slice ra s.top.regs.length rk), (.slice aa s.top.args.length ak), (iI s.top.blk), (iI (s.top.at_ + 1)), (iI s.top.to_)] none false)] : Fp) ++ pg).map Prod.fst)) (ay rfl rfl rfl) rfl rfl rfl (il ex s.top.regs ((s.top.code.blocks.getD s.top.blk.toNat default).ins.getD s.top.at_.toNat default).i.a (binV ((((s.top.code.blocks.getD s.top.blk.toNat default).ins.getD s.top.at_.toNat default).i.op - 17) + 4) (bC s.top.regs ((s.top.code.blocks.getD s.top.blk.toNat default).ins.getD s.top.at_.toNat default).i.a) (bC s.top.regs ((s.top.code.blocks.getD s.top.blk.toNat default).ins.getD s.top.at_.toNat default).i.b)) (HS.call2 hr.log0 (i := 5) (j := 6) (by decide) rfl rfl) x2 (by first | omega | exact hgr _ | exact aj wf.rows _ | (dsimp only; omega)) (by first | omega | exact hgr _ | exact aj wf.rows _ | (dsimp only; omega)) (by first | omega | exact hgr _ | exact dO (hgr _) | exact eA | exact cB _)) (⟨.inl rfl, ⟨.inl rfl, ⟨.inl rfl, ⟨.inl rfl, ⟨.inl rfl, ⟨.inl rfl, ⟨.inl rfl, ⟨.inl rfl, ⟨.inl rfl, ⟨.inl rfl, ⟨.inl rfl, ⟨.inl rfl, ⟨.inl rfl, trivial⟩⟩⟩⟩⟩⟩⟩⟩⟩⟩⟩⟩⟩) ?_
                 rintro _ n2 ⟨nq, nK, nA, na, p3, c8, ci, rfl, mu⟩
                 refine ⟨HS.didW ci, fun mS lB => ?_⟩
                 replace ci := HS.back2 hr.log0 (i := 5) (j := 6) (by decide) rfl rfl rfl (fun _ hb => hb) ci
                 replace ci := HS.lg ci hr lB
                 generalize ({ n2 with log := mS } : Heap) = pz at ci ⊢
                 have ci : HS _ _ _ [es, pc, pr, pp, pl, [(bt.b, .cells [(iI s.top.code.params), (iI s.top.code.regs), (.slice ba s.top.code.blocks.length bk), (.slice nq nK nA), (.slice aa s.top.args.length ak), (iI s.top.blk), (iI (s.top.at_ + 1)), (iI s.top.to_)] none false)], na, po, I, A, av] _ := ci
                 replace U := U.mono c8
                 replace Z := Z.mono c8
                 replace T := T.mono c8
                 replace y3 := y3.mono c8
                 replace V := V.mono c8
                 replace y2 := SF.mono c8 y2
                 replace y4 := FAM.mono (fun k => CR.mono c8 k) y4
                 refine bX ?_
                 refine aw 1 rfl ?_
                 exact aA ⟨.inl rfl, _, rfl, rfl, RunP.mk (bt := bt) (L := [I, A, av]) (by unfold bD; dsimp only [el, e9, b8]; (repeat (first | rw [if_pos (by omega)] | rw [if_neg (by omega)] | rw [if_pos hlow] | rw [if_neg hlow] | (unfold cr; dsimp only [goT, az]) | (unfold fD; dsimp only [az]) | (unfold fe; dsimp only [cv, az]) | (unfold fb; dsimp only [cv, az]) | (unfold cu; dsimp only [az]))); first | done | rfl | rw [hmap]) ci (c8) T y2 y3 y4 V y7 U mu Z⟩
       rintro _ qc ⟨rfl, kd⟩
       refine ao 1 rfl ?_
       exact aA ⟨.inl rfl, _, rfl, rfl, kd⟩
end Go.Proofs.YtlabedbmgmfbaaaDoor.is_
