/-
 One step of the interpreter of virtual code, by a symbolic run. No condition but that the table lies as laid.
-/
import Derived.Test.YtlabedbmgmfbaaaDoorZVIC
noncomputable section
namespace Go.Proofs.YtlabedbmgmfbaaaDoor.is_
open Go.R
set_option maxRecDepth 10000
set_option linter.unusedVariables false
open m1 m2 m3 m4 m5 m6 m7 m8 iw ia ib ic
theorem last_get {ps : List PtrT} {bt : PtrT} {n : Int} (h : n = (ps.length : Int)) : (ps ++ [bt]).getD n.toNat default = bt := by subst h; simp
theorem take_last {ps : List PtrT} {bt : PtrT} {n : Nat} (h : n = ps.length) : (ps ++ [bt]).take n = ps := by subst h; simp
theorem kF {f : Int → Int} {l ag : List Int} {j : Nat} (h : ag = (l.take j).map f) (hj : j < l.length) : ag ++ [f (l.getD j 0)] = (l.take (j + 1)).map f := by
 rw [h, List.take_add_one, List.map_append, List.getD_eq_getElem?_getD, List.getElem?_eq_getElem hj]; rfl
theorem map_all {f : Int → Int} {l ag : List Int} {j : Nat} (h : ag = (l.take j).map f) (hj : l.length ≤ j) : ag = l.map f := by rw [h, List.take_of_length_le hj]
set_option maxHeartbeats 4000000 in
theorem step_c (ex : FuncId) {F : Fz} {H : Heap} {R : List Fp} {b : Nat} {la : Option Addr} {lk : Nat} {ca : Option Addr} {cn ck : Nat} {pa : Option Addr} {pn pk : Nat} {oa : Option Addr} {on ok : Nat} {q : Fp} {P : List VFnT} {nc N : Nat} (s : RunS) (hs : HS (.of H (b :: q.map Prod.fst)) F H [[(b, .cells [.slice la P.length lk, .slice ca cn ck, .slice pa pn pk, .int .i64 s.fuel, .bool s.over, .int .i64 s.kind, .int .i64 s.code, .slice oa on ok, .int .i64 s.val] none false)], q] R) (hq : RunQ F s ca cn ck pa pn pk oa on ok q) (hP : SR F (.slice la P.length lk) P) (hp : PrF P nc) (wf : RunOK P nc s N) (hil : ∀ c ∈ P, ∀ k, (c.blocks.getD k default).ins.length ≤ 1000000) (hN : N ≤ 1000000) : C Tryd.prog 1 (KT 60 ex 37 tabC) 72 [.pointer (some ⟨b, 0, none⟩)] H fun v H' => v = .tuple #[] ∧ RunP (.of H (b :: q.map Prod.fst)) F R P la lk b (bC P s) H' := by
 obtain ⟨hd, ps, bt, pc, pr, pp, pl, po, ba, bk, ra, rn, rk, aa, an, ak, pg, hsO, T, y2, y3, y4, V, y7, U, x2, Z⟩ := RunQ.open hq hs
 obtain rfl := OS.nlen T; obtain rfl := OS.nlen y3; obtain rfl := OS.nlen V; obtain rfl := OS.nlen x2
 have lan := SR.len' Z; subst lan
 have hC := wf.top; have hbk := hC.blk; have hat := hC.at_; have hrl := hC.regs; have hal := hC.args; have hto := hC.to_; have hcl := wf.cells; have hcnt := wf.cnt; have hfu := wf.fuel; have hps := FAM.len y4; have r8 := FAM.len y2
 have hgr : ∀ n, in64 (bw s.top.regs n) := fun n => sv_in (OS.sv x2 hsO (i := 6) rfl) n
 have hlim := hp.lim _ hC.mem; have hmi := hil _ hC.mem s.top.blk.toNat; have hfx := i0 (b := (s.top.code.blocks.getD s.top.blk.toNat default)) (hC.fin hp) hlim.2.2.2.1
 have hpl : (ps ++ [bt]).length = ps.length + 1 := by simp
 clear hs hq
 refine aL Tryd.func72 rfl rfl ?_
 refine aw 1 rfl ?_
 obtain ⟨r5, pM⟩ := Sv.view (OS.sv y3 hsO (i := 3) rfl)
 refine wRD 2 [(3, .o (.slice pa (ps ++ [bt]).length pk)), (7, .o (.slice pa (ps ++ [bt]).length pk)), (11, .o (.pointer (some ⟨bt.b, 0, none⟩)))] 8 19 [2] [(2, (.pointer (some ⟨bt.b, 0, none⟩)))] (vA (ql 110 2 (hc0 (HS.hc hsO (i := 0) rfl)) rfl rfl) (vA (ql 110 2 (hc0 (HS.hc hsO (i := 0) rfl)) rfl rfl) (vA (vi (n := ((ps ++ [bt]).length : Int) - 1) (by omega)) (vA (Sv.ix (j := ((ps ++ [bt]).length : Int) - 1) (OS.sv y3 hsO (i := 3) rfl) (by omega) (by omega)) (vA (ptq (show ((ps ++ [bt]).getD (((ps ++ [bt]).length : Int) - 1).toNat default) = bt from by exact last_get (by omega)) (ql 107 0 (hc0 (vP (pM (((ps ++ [bt]).length : Int) - 1).toNat) (by omega))) rfl rfl)) trivial))))) rfl rfl fun _ => ?_
 refine aI rfl ?_
 refine fm (.pointer (some ⟨bt.b, 0, none⟩)) rfl rfl rfl ?_
 refine ab (v := (.pointer (some ⟨bt.b, 0, none⟩))) (id := .v) (bF rfl) rfl rfl (az rfl) (ay _) ?_
 refine ab (v := (.pointer (some ⟨bt.b, 0, none⟩))) (id := .v) (aU rfl rfl) rfl rfl (az rfl) (ay _) ?_
 refine ab (v := (.pointer (some ⟨bt.b, 2, none⟩))) (id := .v) (aU rfl rfl) rfl rfl (az rfl) (ay _) ?_
 refine ab (v := (.slice ba s.top.code.blocks.length bk)) (id := .l bt.b) (aD (i := 2) rfl rfl (HS.hc hsO.log0 (i := 5) rfl) rfl rfl) rfl rfl (aO rfl) (⟨.inl rfl, ⟨.inl rfl, ⟨.inl rfl, ⟨.inl rfl, trivial⟩⟩⟩⟩) ?_
 refine fm (.pointer (some ⟨bt.b, 0, none⟩)) rfl rfl rfl ?_
 refine ab (v := (.pointer (some ⟨bt.b, 0, none⟩))) (id := .v) (bF rfl) rfl rfl (az rfl) (ay _) ?_
 refine ab (v := (.pointer (some ⟨bt.b, 5, none⟩))) (id := .v) (aU rfl rfl) rfl rfl (az rfl) (ay _) ?_
 refine ab (v := (iI s.top.blk)) (id := .l bt.b) (aD (i := 5) rfl rfl (HS.hc hsO.log0 (i := 5) rfl) rfl rfl) rfl rfl (aO rfl) (⟨.inl rfl, ⟨.inl rfl, ⟨.inl rfl, ⟨.inr trivial, ⟨.inr trivial, ⟨.inr trivial, ⟨.inr trivial, ⟨.inr trivial, trivial⟩⟩⟩⟩⟩⟩⟩⟩) ?_
 refine ab (v := (.pointer (some ⟨sB (.slice ba s.top.code.blocks.length bk), sO (.slice ba s.top.code.blocks.length bk) + s.top.blk.toNat * Rp.sz BlkT, none⟩))) (id := .v) (bh (α := BlkT) (j := s.top.blk) rfl rfl rfl rfl (SR.sv U hsO.log0) (by omega) (by omega)) rfl rfl (az rfl) (ay _) ?_
 obtain ⟨r6, pL, pJ⟩ := Sv.at (SR.sv U hsO.log0) (aW (x := default) (show s.top.blk.toNat < s.top.code.blocks.length from by first | omega | exact hgr _ | exact aK wf.rows _ | (dsimp only; omega)))
 obtain ⟨e0, fi, rfl, rf, rh, ri, rj, ms⟩ := pL
 refine ab (v := (.agg ⟨[(.slice e0 (s.top.code.blocks.getD s.top.blk.toNat default).ins.length fi), (iI (s.top.code.blocks.getD s.top.blk.toNat default).fin), (iI (s.top.code.blocks.getD s.top.blk.toNat default).reg), (iI (s.top.code.blocks.getD s.top.blk.toNat default).tgt), (iI (s.top.code.blocks.getD s.top.blk.toNat default).els)]⟩)) (id := .l (sB (.slice ba s.top.code.blocks.length bk))) (gE (i := 0) rfl rfl rfl pJ rfl rfl rfl) rfl rfl (aO rfl) (⟨.inl rfl, ⟨.inl rfl, ⟨.inl rfl, ⟨.inl rfl, ⟨.inl rfl, ⟨.inl rfl, ⟨.inl rfl, ⟨.inl rfl, ⟨.inl rfl, ⟨.inl rfl, trivial⟩⟩⟩⟩⟩⟩⟩⟩⟩⟩) ?_
 refine dC (id := .a) (bK hsO.log0 rfl) rfl rfl (fun _ _ _ _ => gR rfl rfl rfl) (⟨.inr trivial, ⟨.inr trivial, ⟨.inr trivial, ⟨.inr trivial, ⟨.inr trivial, ⟨.inr trivial, ⟨.inr trivial, ⟨.inr trivial, ⟨.inr trivial, ⟨.inr trivial, ⟨.inr trivial, trivial⟩⟩⟩⟩⟩⟩⟩⟩⟩⟩⟩) ?_
 rintro _ H6 _ ⟨b5, rfl, ho, _⟩ pO oO
 replace ho := HS.lg ho hsO oO
 generalize ({ H6 with log := pO } : Heap) = rW at ho ⊢
 let ea : Fp := [(b, .cells [(.slice la P.length lk), (.slice ca hd.length ck), (.slice pa (ps ++ [bt]).length pk), (iI s.fuel), (.bool s.over), (iI s.kind), (iI s.code), (.slice oa s.out.length ok), (iI s.val)] none false)]
 have ho : HS _ _ _ [ea, pc, pr, pp, pl, [(bt.b, .cells [(iI s.top.code.params), (iI s.top.code.regs), (.slice ba s.top.code.blocks.length bk), (.slice ra s.top.regs.length rk), (.slice aa s.top.args.length ak), (iI s.top.blk), (iI s.top.at_), (iI s.top.to_)] none false)], pg, po, [(b5, .cells [(.slice none 0 0), (iI 0), (iI 0), (iI 0), (iI 0)] none false)]] _ := ho
 refine ed (id := .x [b5]) (aA (q := 8) ho.log0 rfl rfl rfl rfl rfl rfl rfl rfl rfl) rfl (by rintro _ _ _ ⟨_, hwr⟩; exact cE rfl rfl (Wr.did hwr)) (⟨.inl rfl, ⟨.inl rfl, ⟨.inl rfl, ⟨.inl rfl, ⟨.inl rfl, ⟨.inl rfl, ⟨.inl rfl, ⟨.inl rfl, ⟨.inl rfl, ⟨.inl rfl, ⟨.inl rfl, ⟨.inl rfl, trivial⟩⟩⟩⟩⟩⟩⟩⟩⟩⟩⟩⟩) ?_
 rintro _ H7 _ ⟨a7, _⟩ pP oP
 replace a7 := HS.lg a7 ho oP
 generalize ({ H7 with log := pP } : Heap) = rX at a7 ⊢
 let I : Fp := [(b5, .cells [(.slice e0 (s.top.code.blocks.getD s.top.blk.toNat default).ins.length fi), (iI (s.top.code.blocks.getD s.top.blk.toNat default).fin), (iI (s.top.code.blocks.getD s.top.blk.toNat default).reg), (iI (s.top.code.blocks.getD s.top.blk.toNat default).tgt), (iI (s.top.code.blocks.getD s.top.blk.toNat default).els)] none false)]
 have a7 : HS _ _ _ [_, _, _, _, _, _, _, _, I] _ := a7
 refine bz ?_
 refine aw 3 rfl ?_
 refine wRD 1 [(3, .o (iI s.top.at_)), (5, .o (.slice e0 (s.top.code.blocks.getD s.top.blk.toNat default).ins.length fi))] 31 38 [] [(38, (.bool (s.top.at_ == ((s.top.code.blocks.getD s.top.blk.toNat default).ins.length : Int))))] (vA (ql 3 6 (hc0 (HS.hc a7 (i := 5) rfl)) rfl rfl) (vA (ql 40 0 (hc0 (HS.hc a7 (i := 8) rfl)) rfl rfl) trivial)) rfl rfl fun _ => ?_
 refine am 1 2 (v := (s.top.at_ == ((s.top.code.blocks.getD s.top.blk.toNat default).ins.length : Int))) rfl rfl rfl rfl (fun c9 => ?_) (fun c9 => ?_)
 ·
  try simp only [BS] at c9
  refine ae ?_
  refine wRo 2 0 [] 39 40 [] [(39, (.pointer (some ⟨b, 0, none⟩))), (40, (.pointer (some ⟨bt.b, 0, none⟩)))] trivial rfl fun _ => ?_
  refine aF (R := fun v H' => v = .tuple #[] ∧ RunP (.of H (b :: q.map Prod.fst)) F R P la lk b (bC P s) H') (ax rfl rfl rfl) rfl rfl ?_ ?_
  ·
   refine aL Tryd.func85 rfl rfl ?_
   refine aw 1 rfl ?_
   refine aI rfl ?_
   refine fm (.pointer (some ⟨bt.b, 0, none⟩)) rfl rfl rfl ?_
   refine ab (v := (.pointer (some ⟨bt.b, 0, none⟩))) (id := .v) (bF rfl) rfl rfl (az rfl) (ay _) ?_
   refine ab (v := (.pointer (some ⟨bt.b, 0, none⟩))) (id := .v) (aU rfl rfl) rfl rfl (az rfl) (ay _) ?_
   refine ab (v := (.pointer (some ⟨bt.b, 2, none⟩))) (id := .v) (aU rfl rfl) rfl rfl (az rfl) (ay _) ?_
   refine ab (v := (.slice ba s.top.code.blocks.length bk)) (id := .l bt.b) (aD (i := 2) rfl rfl (HS.hc a7.log0 (i := 5) rfl) rfl rfl) rfl rfl (aO rfl) (⟨.inl rfl, ⟨.inl rfl, ⟨.inl rfl, ⟨.inl rfl, trivial⟩⟩⟩⟩) ?_
   refine fm (.pointer (some ⟨bt.b, 0, none⟩)) rfl rfl rfl ?_
   refine ab (v := (.pointer (some ⟨bt.b, 0, none⟩))) (id := .v) (bF rfl) rfl rfl (az rfl) (ay _) ?_
   refine ab (v := (.pointer (some ⟨bt.b, 5, none⟩))) (id := .v) (aU rfl rfl) rfl rfl (az rfl) (ay _) ?_
   refine ab (v := (iI s.top.blk)) (id := .l bt.b) (aD (i := 5) rfl rfl (HS.hc a7.log0 (i := 5) rfl) rfl rfl) rfl rfl (aO rfl) (⟨.inl rfl, ⟨.inl rfl, ⟨.inl rfl, ⟨.inr trivial, ⟨.inr trivial, ⟨.inr trivial, ⟨.inr trivial, ⟨.inr trivial, trivial⟩⟩⟩⟩⟩⟩⟩⟩) ?_
   refine ab (v := (.pointer (some ⟨sB (.slice ba s.top.code.blocks.length bk), sO (.slice ba s.top.code.blocks.length bk) + s.top.blk.toNat * Rp.sz BlkT, none⟩))) (id := .v) (bh (α := BlkT) (j := s.top.blk) rfl rfl rfl rfl (SR.sv U a7.log0) (by omega) (by omega)) rfl rfl (az rfl) (ay _) ?_
   obtain ⟨q8, oT, oL⟩ := Sv.at (SR.sv U a7.log0) (aW (x := default) (show s.top.blk.toNat < s.top.code.blocks.length from by first | omega | exact hgr _ | exact aK wf.rows _ | (dsimp only; omega)))
   obtain ⟨k5, lu, rfl, qj, qk, qm, qo, qy⟩ := oT
   refine ab (v := (.agg ⟨[(.slice k5 (s.top.code.blocks.getD s.top.blk.toNat default).ins.length lu), (iI (s.top.code.blocks.getD s.top.blk.toNat default).fin), (iI (s.top.code.blocks.getD s.top.blk.toNat default).reg), (iI (s.top.code.blocks.getD s.top.blk.toNat default).tgt), (iI (s.top.code.blocks.getD s.top.blk.toNat default).els)]⟩)) (id := .l (sB (.slice ba s.top.code.blocks.length bk))) (gE (i := 0) rfl rfl rfl oL rfl rfl rfl) rfl rfl (aO rfl) (⟨.inl rfl, ⟨.inl rfl, ⟨.inl rfl, ⟨.inl rfl, ⟨.inl rfl, ⟨.inl rfl, ⟨.inl rfl, ⟨.inl rfl, ⟨.inl rfl, ⟨.inl rfl, trivial⟩⟩⟩⟩⟩⟩⟩⟩⟩⟩) ?_
   refine dC (id := .a) (bK a7.log0 rfl) rfl rfl (fun _ _ _ _ => gR rfl rfl rfl) (⟨.inr trivial, ⟨.inr trivial, ⟨.inr trivial, ⟨.inr trivial, ⟨.inr trivial, ⟨.inr trivial, ⟨.inr trivial, ⟨.inr trivial, ⟨.inr trivial, ⟨.inr trivial, ⟨.inr trivial, trivial⟩⟩⟩⟩⟩⟩⟩⟩⟩⟩⟩) ?_
   rintro _ pq _ ⟨lD, rfl, e4, _⟩ o2 mH
   replace e4 := HS.lg e4 a7 mH
   generalize ({ pq with log := o2 } : Heap) = qO at e4 ⊢
   have e4 : HS _ _ _ [_, _, _, _, _, _, _, _, _, [(lD, .cells [(.slice none 0 0), (iI 0), (iI 0), (iI 0), (iI 0)] none false)]] _ := e4
   refine ed (id := .x [lD]) (aA (q := 9) e4.log0 rfl rfl rfl rfl rfl rfl rfl rfl rfl) rfl (by rintro _ _ _ ⟨_, hwr⟩; exact cE rfl rfl (Wr.did hwr)) (⟨.inl rfl, ⟨.inl rfl, ⟨.inl rfl, ⟨.inl rfl, ⟨.inl rfl, ⟨.inl rfl, ⟨.inl rfl, ⟨.inl rfl, ⟨.inl rfl, ⟨.inl rfl, ⟨.inl rfl, ⟨.inl rfl, trivial⟩⟩⟩⟩⟩⟩⟩⟩⟩⟩⟩⟩) ?_
   rintro _ pt _ ⟨J, _⟩ o3 mI
   replace J := HS.lg J e4 mI
   generalize ({ pt with log := o3 } : Heap) = hS at J ⊢
   let eb : Fp := [(lD, .cells [(.slice k5 (s.top.code.blocks.getD s.top.blk.toNat default).ins.length lu), (iI (s.top.code.blocks.getD s.top.blk.toNat default).fin), (iI (s.top.code.blocks.getD s.top.blk.toNat default).reg), (iI (s.top.code.blocks.getD s.top.blk.toNat default).tgt), (iI (s.top.code.blocks.getD s.top.blk.toNat default).els)] none false)]
   have J : HS _ _ _ [_, _, _, _, _, _, _, _, _, eb] _ := J
   refine bz ?_
   refine aw 2 rfl ?_
   refine wR 3 [(1, .o (iI (s.top.code.blocks.getD s.top.blk.toNat default).fin))] 17 18 [] [(18, (iI (s.top.code.blocks.getD s.top.blk.toNat default).fin))] (vA (ql 3 1 (HS.hc J (i := 9) rfl) rfl rfl) trivial) rfl fun _ => ?_
   refine wR 1 [] 23 24 [] [(23, (.bool ((s.top.code.blocks.getD s.top.blk.toNat default).fin == 1)))] trivial rfl fun _ => ?_
   refine am 0 1 (v := ((s.top.code.blocks.getD s.top.blk.toNat default).fin == 1)) rfl rfl rfl rfl (fun lH => ?_) (fun lH => ?_)
   ·
    try simp only [BS] at lH
    refine ae ?_
    refine wRo 6 0 [(3, .o (iI (s.top.code.blocks.getD s.top.blk.toNat default).tgt))] 25 30 [] [(26, (.pointer (some ⟨bt.b, 0, none⟩))), (28, (iI (s.top.code.blocks.getD s.top.blk.toNat default).tgt)), (30, (.pointer (some ⟨bt.b, 5, none⟩)))] (vA (ql 3 3 (HS.hc J (i := 9) rfl) rfl rfl) trivial) rfl fun _ => ?_
    refine aP (aA (q := 5) J rfl rfl rfl rfl rfl rfl rfl rfl rfl) rfl ?_
    rintro _ rJ _ ⟨i2, _⟩
    have i2 : HS _ _ _ [_, _, _, _, _, [(bt.b, .cells [(iI s.top.code.params), (iI s.top.code.regs), (.slice ba s.top.code.blocks.length bk), (.slice ra s.top.regs.length rk), (.slice aa s.top.args.length ak), (iI (s.top.code.blocks.getD s.top.blk.toNat default).tgt), (iI s.top.at_), (iI s.top.to_)] none false)], _, _, _, _] _ := i2
    refine wRo 2 7 [] 31 32 [] [(32, (.pointer (some ⟨bt.b, 6, none⟩)))] trivial rfl fun _ => ?_
    refine aP (aA (q := 5) i2 rfl rfl rfl rfl rfl rfl rfl rfl rfl) rfl ?_
    rintro _ rK _ ⟨i3, _⟩
    have i3 : HS _ _ _ [_, _, _, _, _, [(bt.b, .cells [(iI s.top.code.params), (iI s.top.code.regs), (.slice ba s.top.code.blocks.length bk), (.slice ra s.top.regs.length rk), (.slice aa s.top.args.length ak), (iI (s.top.code.blocks.getD s.top.blk.toNat default).tgt), (iI 0), (iI s.top.to_)] none false)], _, _, _, _] _ := i3
    refine ao 1 rfl ?_
    exact au ⟨.inl rfl, _, rfl, rfl, RunP.mk (bt := bt) (L := [I, eb]) (by unfold bC; dsimp only [f5, gf, cC]; (repeat (first | rw [if_pos (by omega)] | rw [if_neg (by omega)] | rw [if_pos hlow] | rw [if_neg hlow] | (unfold cM; dsimp only [goT, aE]) | (unfold fF; dsimp only [aE]) | (unfold gg; dsimp only [cQ, aE]) | (unfold eS; dsimp only [cQ, aE]) | (unfold cH; dsimp only [aE]))); first | done | rfl | rw [hmap]) i3 fR T y2 y3 y4 V y7 U x2 Z⟩
   ·
    try simp only [BS] at lH
    refine wR 1 [] 33 34 [] [(33, (.bool ((s.top.code.blocks.getD s.top.blk.toNat default).fin == 2)))] trivial rfl fun _ => ?_
    refine am 2 1 (v := ((s.top.code.blocks.getD s.top.blk.toNat default).fin == 2)) rfl rfl rfl rfl (fun lI => ?_) (fun lI => ?_)
    ·
     try simp only [BS] at lI
     refine wR 1 [(2, .o (iI (s.top.code.blocks.getD s.top.blk.toNat default).reg)), (3, .o (iI (bw s.top.regs (s.top.code.blocks.getD s.top.blk.toNat default).reg)))] 35 39 [] [(39, (.bool (bw s.top.regs (s.top.code.blocks.getD s.top.blk.toNat default).reg != 0)))] (vA (ql 3 2 (HS.hc J (i := 9) rfl) rfl rfl) (vA (ic.fc ex s.top.regs (s.top.code.blocks.getD s.top.blk.toNat default).reg hS (HS.hc J (i := 5) rfl) (OS.sv x2 J (i := 6) rfl) (by omega) (by omega)) trivial)) rfl fun _ => ?_
     refine am 0 0 (v := (bw s.top.regs (s.top.code.blocks.getD s.top.blk.toNat default).reg != 0)) rfl rfl rfl rfl (fun lJ => ?_) (fun lJ => ?_)
     ·
      try simp only [BS] at lJ
      refine ae ?_
      refine wRo 5 0 [(2, .o (iI (s.top.code.blocks.getD s.top.blk.toNat default).tgt))] 40 44 [] [(42, (iI (s.top.code.blocks.getD s.top.blk.toNat default).tgt)), (44, (.pointer (some ⟨bt.b, 5, none⟩)))] (vA (ql 3 3 (HS.hc J (i := 9) rfl) rfl rfl) trivial) rfl fun _ => ?_
      refine aP (aA (q := 5) J rfl rfl rfl rfl rfl rfl rfl rfl rfl) rfl ?_
      rintro _ rL _ ⟨jb, _⟩
      have jb : HS _ _ _ [_, _, _, _, _, [(bt.b, .cells [(iI s.top.code.params), (iI s.top.code.regs), (.slice ba s.top.code.blocks.length bk), (.slice ra s.top.regs.length rk), (.slice aa s.top.args.length ak), (iI (s.top.code.blocks.getD s.top.blk.toNat default).tgt), (iI s.top.at_), (iI s.top.to_)] none false)], _, _, _, _] _ := jb
      refine ao 1 rfl ?_
      refine ae ?_
      refine wRo 3 0 [] 50 52 [] [(52, (.pointer (some ⟨bt.b, 6, none⟩)))] trivial rfl fun _ => ?_
      refine aP (aA (q := 5) jb rfl rfl rfl rfl rfl rfl rfl rfl rfl) rfl ?_
      rintro _ rM _ ⟨jq, _⟩
      have jq : HS _ _ _ [_, _, _, _, _, [(bt.b, .cells [(iI s.top.code.params), (iI s.top.code.regs), (.slice ba s.top.code.blocks.length bk), (.slice ra s.top.regs.length rk), (.slice aa s.top.args.length ak), (iI (s.top.code.blocks.getD s.top.blk.toNat default).tgt), (iI 0), (iI s.top.to_)] none false)], _, _, _, _] _ := jq
      refine ao 1 rfl ?_
      exact au ⟨.inl rfl, _, rfl, rfl, RunP.mk (bt := bt) (L := [I, eb]) (by unfold bC; dsimp only [f5, gf, cC]; (repeat (first | rw [if_pos (by omega)] | rw [if_neg (by omega)] | rw [if_pos hlow] | rw [if_neg hlow] | (unfold cM; dsimp only [goT, aE]) | (unfold fF; dsimp only [aE]) | (unfold gg; dsimp only [cQ, aE]) | (unfold eS; dsimp only [cQ, aE]) | (unfold cH; dsimp only [aE]))); first | done | rfl | rw [hmap]) jq fR T y2 y3 y4 V y7 U x2 Z⟩
     ·
      try simp only [BS] at lJ
      refine ae ?_
      refine wRo 5 0 [(2, .o (iI (s.top.code.blocks.getD s.top.blk.toNat default).els))] 45 49 [] [(47, (iI (s.top.code.blocks.getD s.top.blk.toNat default).els)), (49, (.pointer (some ⟨bt.b, 5, none⟩)))] (vA (ql 3 4 (HS.hc J (i := 9) rfl) rfl rfl) trivial) rfl fun _ => ?_
      refine aP (aA (q := 5) J rfl rfl rfl rfl rfl rfl rfl rfl rfl) rfl ?_
      rintro _ rO _ ⟨j2, _⟩
      have j2 : HS _ _ _ [_, _, _, _, _, [(bt.b, .cells [(iI s.top.code.params), (iI s.top.code.regs), (.slice ba s.top.code.blocks.length bk), (.slice ra s.top.regs.length rk), (.slice aa s.top.args.length ak), (iI (s.top.code.blocks.getD s.top.blk.toNat default).els), (iI s.top.at_), (iI s.top.to_)] none false)], _, _, _, _] _ := j2
      refine ao 1 rfl ?_
      refine ae ?_
      refine wRo 3 0 [] 50 52 [] [(52, (.pointer (some ⟨bt.b, 6, none⟩)))] trivial rfl fun _ => ?_
      refine aP (aA (q := 5) j2 rfl rfl rfl rfl rfl rfl rfl rfl rfl) rfl ?_
      rintro _ rP _ ⟨kd, _⟩
      have kd : HS _ _ _ [_, _, _, _, _, [(bt.b, .cells [(iI s.top.code.params), (iI s.top.code.regs), (.slice ba s.top.code.blocks.length bk), (.slice ra s.top.regs.length rk), (.slice aa s.top.args.length ak), (iI (s.top.code.blocks.getD s.top.blk.toNat default).els), (iI 0), (iI s.top.to_)] none false)], _, _, _, _] _ := kd
      refine ao 1 rfl ?_
      exact au ⟨.inl rfl, _, rfl, rfl, RunP.mk (bt := bt) (L := [I, eb]) (by unfold bC; dsimp only [f5, gf, cC]; (repeat (first | rw [if_pos (by omega)] | rw [if_neg (by omega)] | rw [if_pos hlow] | rw [if_neg hlow] | (unfold cM; dsimp only [goT, aE]) | (unfold fF; dsimp only [aE]) | (unfold gg; dsimp only [cQ, aE]) | (unfold eS; dsimp only [cQ, aE]) | (unfold cH; dsimp only [aE]))); first | done | rfl | rw [hmap]) kd fR T y2 y3 y4 V y7 U x2 Z⟩
    ·
     try simp only [BS] at lI
     refine wR 1 [] 53 54 [] [(53, (.bool ((s.top.code.blocks.getD s.top.blk.toNat default).fin == 3)))] trivial rfl fun _ => ?_
     refine am 1 0 (v := ((s.top.code.blocks.getD s.top.blk.toNat default).fin == 3)) rfl rfl rfl rfl (fun lK => ?_) (fun lK => ?_)
     ·
      try simp only [BS] at lK
      refine wR 3 [(2, .o (iI (s.top.code.blocks.getD s.top.blk.toNat default).reg)), (3, .o (iI (bw s.top.regs (s.top.code.blocks.getD s.top.blk.toNat default).reg)))] 55 58 [5] [(5, (iI (bw s.top.regs (s.top.code.blocks.getD s.top.blk.toNat default).reg)))] (vA (ql 3 2 (HS.hc J (i := 9) rfl) rfl rfl) (vA (ic.fc ex s.top.regs (s.top.code.blocks.getD s.top.blk.toNat default).reg hS (HS.hc J (i := 5) rfl) (OS.sv x2 J (i := 6) rfl) (by omega) (by omega)) trivial)) rfl fun _ => ?_
      refine wR 1 [(3, .o (.slice pa (ps ++ [bt]).length pk))] 59 64 [] [(64, (.bool (((ps ++ [bt]).length : Int) == 1)))] (vA (ql 110 2 (HS.hc J (i := 0) rfl) rfl rfl) trivial) rfl fun _ => ?_
      refine am 1 2 (v := (((ps ++ [bt]).length : Int) == 1)) rfl rfl rfl rfl (fun lL => ?_) (fun lL => ?_)
      ·
       try simp only [BS] at lL
       have hlow : s.low = [] := List.eq_nil_of_length_eq_zero (by omega)
       refine ae ?_
       refine wRo 2 0 [] 65 66 [] [(65, (.pointer (some ⟨b, 0, none⟩))), (66, (iI (bw s.top.regs (s.top.code.blocks.getD s.top.blk.toNat default).reg)))] trivial rfl fun _ => ?_
       refine aF (ax rfl rfl rfl) rfl rfl (jU ex (1) (0) (bw s.top.regs (s.top.code.blocks.getD s.top.blk.toNat default).reg) (HS.callOwn J (i := 0) rfl)) ?_
       rintro _ rQ ⟨hm, rfl⟩
       replace hm := HS.backOwn J (i := 0) rfl rfl (fun _ hb => hb) hm
       have hm : HS _ _ _ [[(b, .cells [(.slice la P.length lk), (.slice ca hd.length ck), (.slice pa (ps ++ [bt]).length pk), (iI s.fuel), (.bool true), (iI 1), (iI 0), (.slice oa s.out.length ok), (iI (bw s.top.regs (s.top.code.blocks.getD s.top.blk.toNat default).reg))] none false)], pc, pr, pp, pl, [(bt.b, .cells [(iI s.top.code.params), (iI s.top.code.regs), (.slice ba s.top.code.blocks.length bk), (.slice ra s.top.regs.length rk), (.slice aa s.top.args.length ak), (iI s.top.blk), (iI s.top.at_), (iI s.top.to_)] none false)], pg, po, I, eb] _ := hm
       refine ao 1 rfl ?_
       exact aj ⟨.inr rfl, _, rfl, rfl, RunP.mk (bt := bt) (L := [I, eb]) (by unfold bC; dsimp only [f5, gf, cC]; (repeat (first | rw [if_pos (by omega)] | rw [if_neg (by omega)] | rw [if_pos hlow] | rw [if_neg hlow] | (unfold cM; dsimp only [goT, aE]) | (unfold fF; dsimp only [aE]) | (unfold gg; dsimp only [cQ, aE]) | (unfold eS; dsimp only [cQ, aE]) | (unfold cH; dsimp only [aE]))); first | done | rfl | rw [hmap]) hm fR T y2 y3 y4 V (by first | omega | exact hgr _) U x2 Z⟩
      ·
       try simp only [BS] at lL
       have hlow : s.low ≠ [] := fun e => by have := congrArg List.length e; simp only [List.length_nil] at this; omega
       refine aI rfl ?_
       refine fm (.pointer (some ⟨b, 0, none⟩)) rfl rfl rfl ?_
       refine fm (.pointer (some ⟨b, 0, none⟩)) rfl rfl rfl ?_
       refine ab (v := (.pointer (some ⟨b, 0, none⟩))) (id := .v) (bF rfl) rfl rfl (az rfl) (ay _) ?_
       refine ab (v := (.pointer (some ⟨b, 2, none⟩))) (id := .v) (aU rfl rfl) rfl rfl (az rfl) (ay _) ?_
       refine ab (v := (.slice pa (ps ++ [bt]).length pk)) (id := .l b) (aD (i := 2) rfl rfl (HS.hc J.log0 (i := 0) rfl) rfl rfl) rfl rfl (aO rfl) (⟨.inl rfl, ⟨.inl rfl, ⟨.inl rfl, ⟨.inr trivial, trivial⟩⟩⟩⟩) ?_
       refine fm (.pointer (some ⟨b, 0, none⟩)) rfl rfl rfl ?_
       refine ab (v := (.pointer (some ⟨b, 0, none⟩))) (id := .v) (bF rfl) rfl rfl (az rfl) (ay _) ?_
       refine ab (v := (.pointer (some ⟨b, 2, none⟩))) (id := .v) (aU rfl rfl) rfl rfl (az rfl) (ay _) ?_
       refine ab (v := (.slice pa (ps ++ [bt]).length pk)) (id := .l b) (aD (i := 2) rfl rfl (HS.hc J.log0 (i := 0) rfl) rfl rfl) rfl rfl (aO rfl) (⟨.inl rfl, ⟨.inl rfl, ⟨.inl rfl, ⟨.inr trivial, ⟨.inr trivial, ⟨.inr trivial, ⟨.inr trivial, ⟨.inr trivial, trivial⟩⟩⟩⟩⟩⟩⟩⟩) ?_
       refine ab (v := (iI ((ps ++ [bt]).length : Int))) (id := .v) (kY (α := PtrT) rfl rfl (OS.sv y3 J.log0 (i := 3) rfl)) rfl rfl (kN rfl) (ay _) ?_
       refine ab (v := (iI (((ps ++ [bt]).length : Int) - 1))) (id := .v) (ap_sub rfl rfl (kw (n := ((ps ++ [bt]).length : Int) - 1) (by omega))) rfl rfl (az rfl) (ay _) ?_
       refine dC (id := .r) (rs_cutOt (α := PtrT) (j := (((ps ++ [bt]).length : Int) - 1).toNat) y3 J.log0 (q := 3) rfl rfl rfl rfl (optN (by omega)) (by omega)) rfl rfl (by rintro _ _ _ ⟨_, _, _, hH, _⟩; simp only at hH; subst hH; exact did_r fun b hb => absurd hb List.not_mem_nil) (⟨.inl rfl, ⟨.inl rfl, ⟨.inl rfl, ⟨.inl rfl, ⟨.inl rfl, ⟨.inl rfl, ⟨.inl rfl, ⟨.inl rfl, ⟨.inl rfl, ⟨.inl rfl, ⟨.inr trivial, trivial⟩⟩⟩⟩⟩⟩⟩⟩⟩⟩⟩) ?_
       rintro _ _ _ ⟨hl, ht, rfl, hx, e1⟩ o4 mJ
       simp only at hx; replace hx := hx.symm; subst hx
       have ki := HS.lg J.log0 J mJ
       generalize ({ { hS with log := [] } with log := o4 } : Heap) = qS at ki ⊢
       refine ab (v := (.pointer (some ⟨b, 0, none⟩))) (id := .v) (bF rfl) rfl rfl (az rfl) (ay _) ?_
       refine ab (v := (.pointer (some ⟨b, 2, none⟩))) (id := .v) (aU rfl rfl) rfl rfl (az rfl) (ay _) ?_
       refine ed (id := .x [b]) (aA (q := 0) ki.log0 rfl rfl rfl rfl rfl rfl rfl rfl rfl) rfl (by rintro _ _ _ ⟨_, hwr⟩; exact cE rfl rfl (Wr.did hwr)) (⟨.inl rfl, ⟨.inl rfl, ⟨.inl rfl, ⟨.inl rfl, ⟨.inl rfl, ⟨.inl rfl, ⟨.inl rfl, ⟨.inl rfl, ⟨.inl rfl, ⟨.inl rfl, ⟨.inl rfl, ⟨.inl rfl, ⟨.inl rfl, ⟨.inl rfl, trivial⟩⟩⟩⟩⟩⟩⟩⟩⟩⟩⟩⟩⟩⟩) ?_
       rintro _ pu _ ⟨g5, _⟩ o5 mK
       replace g5 := HS.lg g5 ki mK
       generalize ({ pu with log := o5 } : Heap) = qT at g5 ⊢
       have g5 : HS _ _ _ [[(b, .cells [(.slice la P.length lk), (.slice ca hd.length ck), (.slice hl ((ps ++ [bt]).take (((ps ++ [bt]).length : Int) - 1).toNat).length ht), (iI s.fuel), (.bool s.over), (iI s.kind), (iI s.code), (.slice oa s.out.length ok), (iI s.val)] none false)], _, _, _, _, _, _, _, _, _] _ := g5
       refine bz ?_
       refine aw 1 rfl ?_
       obtain ⟨a8, a0, mn, ox, lF, lG, pR, sg, pS, lB, r4, lC, e2, hsW, z4, z1, z2, z3⟩ := pool_pop y4 hlow g5 rfl
       obtain rfl := OS.nlen z2; have o1 := SR.len' z3; subst o1
       have e3 : (ps ++ [bt]).take (((ps ++ [bt]).length : Int) - 1).toNat = a8 ++ [a0] := (take_last (by omega)).trans e2
       rw [e3] at hsW e1
       have rp : (a8 ++ [a0]).length = a8.length + 1 := by simp
       have rq := congrArg List.length e2
       have sa := (wf.low _ (last_mem hlow)).regs
       let k0 : Fp := [(b, .cells [(.slice la P.length lk), (.slice ca hd.length ck), (.slice hl (a8 ++ [a0]).length ht), (iI s.fuel), (.bool s.over), (iI s.kind), (iI s.code), (.slice oa s.out.length ok), (iI s.val)] none false)]
       have hsW : HS _ _ _ [k0, pc, pr, pp, mn, [(bt.b, .cells [(iI s.top.code.params), (iI s.top.code.regs), (.slice ba s.top.code.blocks.length bk), (.slice ra s.top.regs.length rk), (.slice aa s.top.args.length ak), (iI s.top.blk), (iI s.top.at_), (iI s.top.to_)] none false)], pg, po, I, eb, [(a0.b, .cells [(iI (s.low.getLastD default).code.params), (iI (s.low.getLastD default).code.regs), (.slice lF (s.low.getLastD default).code.blocks.length lG), (.slice pR (s.low.getLastD default).regs.length pS), (.slice lB (s.low.getLastD default).args.length lC), (iI (s.low.getLastD default).blk), (iI (s.low.getLastD default).at_), (iI (s.low.getLastD default).to_)] none false)], ox] _ := hsW
       refine aI rfl ?_
       refine fm (.pointer (some ⟨b, 0, none⟩)) rfl rfl rfl ?_
       refine ab (v := (.pointer (some ⟨b, 0, none⟩))) (id := .v) (bF rfl) rfl rfl (az rfl) (ay _) ?_
       refine ab (v := (.pointer (some ⟨b, 2, none⟩))) (id := .v) (aU rfl rfl) rfl rfl (az rfl) (ay _) ?_
       refine ab (v := (.slice hl (a8 ++ [a0]).length ht)) (id := .l b) (aD (i := 2) rfl rfl (HS.hc hsW.log0 (i := 0) rfl) rfl rfl) rfl rfl (aO rfl) (⟨.inl rfl, ⟨.inl rfl, ⟨.inl rfl, trivial⟩⟩⟩) ?_
       refine fm (.pointer (some ⟨b, 0, none⟩)) rfl rfl rfl ?_
       refine ab (v := (.pointer (some ⟨b, 0, none⟩))) (id := .v) (bF rfl) rfl rfl (az rfl) (ay _) ?_
       refine ab (v := (.pointer (some ⟨b, 2, none⟩))) (id := .v) (aU rfl rfl) rfl rfl (az rfl) (ay _) ?_
       refine ab (v := (.slice hl (a8 ++ [a0]).length ht)) (id := .l b) (aD (i := 2) rfl rfl (HS.hc hsW.log0 (i := 0) rfl) rfl rfl) rfl rfl (aO rfl) (⟨.inl rfl, ⟨.inl rfl, ⟨.inl rfl, ⟨.inr trivial, ⟨.inr trivial, ⟨.inr trivial, ⟨.inr trivial, trivial⟩⟩⟩⟩⟩⟩⟩) ?_
       refine ab (v := (iI ((a8 ++ [a0]).length : Int))) (id := .v) (kY (α := PtrT) rfl rfl (OS.sv e1 hsW.log0 (i := 3) rfl)) rfl rfl (kN rfl) (ay _) ?_
       refine ab (v := (iI (((a8 ++ [a0]).length : Int) - 1))) (id := .v) (ap_sub rfl rfl (kw (n := ((a8 ++ [a0]).length : Int) - 1) (by omega))) rfl rfl (az rfl) (ay _) ?_
       refine ab (v := (.pointer (some ⟨sB (.slice hl (a8 ++ [a0]).length ht), sO (.slice hl (a8 ++ [a0]).length ht) + (((a8 ++ [a0]).length : Int) - 1).toNat * Rp.sz PtrT, none⟩))) (id := .v) (bh (α := PtrT) (j := ((a8 ++ [a0]).length : Int) - 1) rfl rfl rfl rfl (OS.sv e1 hsW.log0 (i := 3) rfl) (by omega) (by omega)) rfl rfl (az rfl) (ay _) ?_
       obtain ⟨q6, oZ⟩ := Sv.view (OS.sv e1 hsW.log0 (i := 3) rfl)
       refine ab (v := (.pointer (some ⟨a0.b, 0, none⟩))) (id := .l (sB (.slice hl (a8 ++ [a0]).length ht))) (aD (i := 0) rfl rfl (hcq (show ((a8 ++ [a0]).getD (((a8 ++ [a0]).length : Int) - 1).toNat default) = a0 from by exact last_get (by omega)) (vP (oZ (((a8 ++ [a0]).length : Int) - 1).toNat) (by omega))) rfl rfl) rfl rfl (aO rfl) (⟨.inl rfl, ⟨.inl rfl, ⟨.inl rfl, ⟨.inl rfl, ⟨.inl rfl, ⟨.inl rfl, ⟨.inl rfl, ⟨.inl rfl, ⟨.inl rfl, ⟨.inl rfl, ⟨.inl rfl, trivial⟩⟩⟩⟩⟩⟩⟩⟩⟩⟩⟩) ?_
       refine fm (.pointer (some ⟨bt.b, 0, none⟩)) rfl rfl rfl ?_
       refine ab (v := (.pointer (some ⟨bt.b, 0, none⟩))) (id := .v) (bF rfl) rfl rfl (az rfl) (ay _) ?_
       refine ab (v := (.pointer (some ⟨bt.b, 7, none⟩))) (id := .v) (aU rfl rfl) rfl rfl (az rfl) (ay _) ?_
       refine ab (v := (iI s.top.to_)) (id := .l bt.b) (aD (i := 7) rfl rfl (HS.hc hsW.log0 (i := 5) rfl) rfl rfl) rfl rfl (aO rfl) (⟨.inl rfl, ⟨.inl rfl, ⟨.inl rfl, ⟨.inr trivial, ⟨.inr trivial, ⟨.inr trivial, ⟨.inr trivial, ⟨.inr trivial, ⟨.inr trivial, ⟨.inr trivial, ⟨.inr trivial, ⟨.inr trivial, ⟨.inr trivial, ⟨.inr trivial, ⟨.inr trivial, trivial⟩⟩⟩⟩⟩⟩⟩⟩⟩⟩⟩⟩⟩⟩⟩) ?_
       refine fm (iI (bw s.top.regs (s.top.code.blocks.getD s.top.blk.toNat default).reg)) rfl rfl rfl ?_
       refine bm (W := (a0.b :: ox.map Prod.fst)) (ax rfl rfl rfl) rfl rfl rfl (i9 ex (s.low.getLastD default).regs s.top.to_ (bw s.top.regs (s.top.code.blocks.getD s.top.blk.toNat default).reg) (HS.call2 hsW.log0 (i := 10) (j := 11) (by decide) rfl rfl) z2 (by first | omega | exact hgr _) (by first | omega | exact hgr _) (by first | omega | exact hgr _)) (⟨.inl rfl, ⟨.inl rfl, ⟨.inl rfl, ⟨.inl rfl, ⟨.inl rfl, ⟨.inl rfl, ⟨.inl rfl, ⟨.inl rfl, ⟨.inl rfl, ⟨.inl rfl, ⟨.inl rfl, ⟨.inl rfl, ⟨.inl rfl, ⟨.inl rfl, ⟨.inl rfl, ⟨.inl rfl, ⟨.inl rfl, trivial⟩⟩⟩⟩⟩⟩⟩⟩⟩⟩⟩⟩⟩⟩⟩⟩⟩) ?_
       rintro _ pw ⟨mp, mr, mq, mo, rG, ec, dt, rfl, oU⟩
       refine ⟨HS.didW dt, fun o6 mL => ?_⟩
       replace dt := HS.back2 hsW.log0 (i := 10) (j := 11) (by decide) rfl rfl rfl (fun _ hb => hb) dt
       replace dt := HS.lg dt hsW mL
       generalize ({ pw with log := o6 } : Heap) = qU at dt ⊢
       have dt : HS _ _ _ [k0, pc, pr, pp, mn, [(bt.b, .cells [(iI s.top.code.params), (iI s.top.code.regs), (.slice ba s.top.code.blocks.length bk), (.slice ra s.top.regs.length rk), (.slice aa s.top.args.length ak), (iI s.top.blk), (iI s.top.at_), (iI s.top.to_)] none false)], pg, po, I, eb, [(a0.b, .cells [(iI (s.low.getLastD default).code.params), (iI (s.low.getLastD default).code.regs), (.slice lF (s.low.getLastD default).code.blocks.length lG), (.slice mp mr mq), (.slice lB (s.low.getLastD default).args.length lC), (iI (s.low.getLastD default).blk), (iI (s.low.getLastD default).at_), (iI (s.low.getLastD default).to_)] none false)], mo] _ := dt
       replace e1 := e1.mono ec
       replace T := T.mono ec
       replace V := V.mono ec
       replace z1 := z1.mono ec
       replace z3 := z3.mono ec
       replace y2 := SF.mono ec y2
       replace z4 := FAM.mono (fun k => CR.mono ec k) z4
       refine bz ?_
       refine aw 1 rfl ?_
       have nj : HS _ _ _ [k0, pc, pr, pp, mn, [(a0.b, .cells [(iI (s.low.getLastD default).code.params), (iI (s.low.getLastD default).code.regs), (.slice lF (s.low.getLastD default).code.blocks.length lG), (.slice mp mr mq), (.slice lB (s.low.getLastD default).args.length lC), (iI (s.low.getLastD default).blk), (iI (s.low.getLastD default).at_), (iI (s.low.getLastD default).to_)] none false)], mo, po, [(bt.b, .cells [(iI s.top.code.params), (iI s.top.code.regs), (.slice ba s.top.code.blocks.length bk), (.slice ra s.top.regs.length rk), (.slice aa s.top.args.length ak), (iI s.top.blk), (iI s.top.at_), (iI s.top.to_)] none false)], pg, I, eb] _ := HS.flat dt (gN [0, 1, 2, 3, 4, 10, 11, 7, 5, 6, 8, 9] rfl (show List.Perm [0, 1, 2, 3, 4, 10, 11, 7, 5, 6, 8, 9] (List.range 12) by decide))
       exact au ⟨.inl rfl, _, rfl, rfl, RunP.mk (bt := a0) (L := [[(bt.b, .cells [(iI s.top.code.params), (iI s.top.code.regs), (.slice ba s.top.code.blocks.length bk), (.slice ra s.top.regs.length rk), (.slice aa s.top.args.length ak), (iI s.top.blk), (iI s.top.at_), (iI s.top.to_)] none false)], pg, I, eb]) (by unfold bC; dsimp only [f5, gf, cC]; (repeat (first | rw [if_pos (by omega)] | rw [if_neg (by omega)] | rw [if_pos hlow] | rw [if_neg hlow] | (unfold cM; dsimp only [goT, aE]) | (unfold fF; dsimp only [aE]) | (unfold gg; dsimp only [cQ, aE]) | (unfold eS; dsimp only [cQ, aE]) | (unfold cH; dsimp only [aE]))); first | done | rfl | rw [hmap]) nj (ec) T y2 e1 z4 V y7 z1 oU z3⟩
     ·
      try simp only [BS] at lK
      refine ae ?_
      refine wRo 3 0 [(2, .o (iI (s.top.code.blocks.getD s.top.blk.toNat default).tgt))] 19 21 [] [(19, (.pointer (some ⟨b, 0, none⟩))), (21, (iI (s.top.code.blocks.getD s.top.blk.toNat default).tgt))] (vA (ql 3 3 (HS.hc J (i := 9) rfl) rfl rfl) trivial) rfl fun _ => ?_
      refine aF (ax rfl rfl rfl) rfl rfl (jU ex (2) (s.top.code.blocks.getD s.top.blk.toNat default).tgt (0) (HS.callOwn J (i := 0) rfl)) ?_
      rintro _ rR ⟨hn, rfl⟩
      replace hn := HS.backOwn J (i := 0) rfl rfl (fun _ hb => hb) hn
      have hn : HS _ _ _ [[(b, .cells [(.slice la P.length lk), (.slice ca hd.length ck), (.slice pa (ps ++ [bt]).length pk), (iI s.fuel), (.bool true), (iI 2), (iI (s.top.code.blocks.getD s.top.blk.toNat default).tgt), (.slice oa s.out.length ok), (iI 0)] none false)], pc, pr, pp, pl, [(bt.b, .cells [(iI s.top.code.params), (iI s.top.code.regs), (.slice ba s.top.code.blocks.length bk), (.slice ra s.top.regs.length rk), (.slice aa s.top.args.length ak), (iI s.top.blk), (iI s.top.at_), (iI s.top.to_)] none false)], pg, po, I, eb] _ := hn
      refine ao 1 rfl ?_
      exact au ⟨.inl rfl, _, rfl, rfl, RunP.mk (bt := bt) (L := [I, eb]) (by unfold bC; dsimp only [f5, gf, cC]; (repeat (first | rw [if_pos (by omega)] | rw [if_neg (by omega)] | rw [if_pos hlow] | rw [if_neg hlow] | (unfold cM; dsimp only [goT, aE]) | (unfold fF; dsimp only [aE]) | (unfold gg; dsimp only [cQ, aE]) | (unfold eS; dsimp only [cQ, aE]) | (unfold cH; dsimp only [aE]))); first | done | rfl | rw [hmap]) hn fR T y2 y3 y4 V (by omega) U x2 Z⟩
  rintro _ rS ⟨rfl, lx⟩
  refine ao 1 rfl ?_
  exact aj ⟨.inr rfl, _, rfl, rfl, lx⟩
 ·
  try simp only [BS] at c9
  have hI : InF P nc s.top.code ((s.top.code.blocks.getD s.top.blk.toNat default).ins.getD s.top.at_.toNat default) := hC.inF hp c9
  have hia := hI.a; have hib := hI.b; have hic := hI.cc; have hiA := hI.args; have hiM := hI.mem; have hiP := hI.par; have hiC := hI.call; have hiL := hI.al
  refine aI rfl ?_
  refine ab (v := (.pointer (some ⟨b5, 0, none⟩))) (id := .v) (aU rfl rfl) rfl rfl (az rfl) (ay _) ?_
  refine ab (v := (.slice e0 (s.top.code.blocks.getD s.top.blk.toNat default).ins.length fi)) (id := .l b5) (aD (i := 0) rfl rfl (HS.hc a7.log0 (i := 8) rfl) rfl rfl) rfl rfl (aO rfl) (⟨.inl rfl, trivial⟩) ?_
  refine fm (.pointer (some ⟨bt.b, 0, none⟩)) rfl rfl rfl ?_
  refine ab (v := (.pointer (some ⟨bt.b, 0, none⟩))) (id := .v) (bF rfl) rfl rfl (az rfl) (ay _) ?_
  refine ab (v := (.pointer (some ⟨bt.b, 6, none⟩))) (id := .v) (aU rfl rfl) rfl rfl (az rfl) (ay _) ?_
  refine ab (v := (iI s.top.at_)) (id := .l bt.b) (aD (i := 6) rfl rfl (HS.hc a7.log0 (i := 5) rfl) rfl rfl) rfl rfl (aO rfl) (⟨.inl rfl, ⟨.inl rfl, ⟨.inl rfl, ⟨.inr trivial, ⟨.inr trivial, trivial⟩⟩⟩⟩⟩) ?_
  refine ab (v := (.pointer (some ⟨sB (.slice e0 (s.top.code.blocks.getD s.top.blk.toNat default).ins.length fi), sO (.slice e0 (s.top.code.blocks.getD s.top.blk.toNat default).ins.length fi) + s.top.at_.toNat * Rp.sz VInT, none⟩))) (id := .v) (bh (α := VInT) (j := s.top.at_) rfl rfl rfl rfl (SR.sv ms a7.log0) (by omega) (by omega)) rfl rfl (az rfl) (ay _) ?_
  obtain ⟨q9, oW, oM⟩ := Sv.at (SR.sv ms a7.log0) (aW (x := default) (show s.top.at_.toNat < (s.top.code.blocks.getD s.top.blk.toNat default).ins.length from by first | omega | exact hgr _ | exact aK wf.rows _ | (dsimp only; omega)))
  obtain ⟨f1, g2, rfl, qp, qq, qr, qs, qt, hk⟩ := oW
  refine ab (v := (.agg ⟨[(iI ((s.top.code.blocks.getD s.top.blk.toNat default).ins.getD s.top.at_.toNat default).i.op), (iI ((s.top.code.blocks.getD s.top.blk.toNat default).ins.getD s.top.at_.toNat default).i.a), (iI ((s.top.code.blocks.getD s.top.blk.toNat default).ins.getD s.top.at_.toNat default).i.b), (iI ((s.top.code.blocks.getD s.top.blk.toNat default).ins.getD s.top.at_.toNat default).i.c), (iI ((s.top.code.blocks.getD s.top.blk.toNat default).ins.getD s.top.at_.toNat default).i.n), (.slice f1 ((s.top.code.blocks.getD s.top.blk.toNat default).ins.getD s.top.at_.toNat default).args.length g2)]⟩)) (id := .l (sB (.slice e0 (s.top.code.blocks.getD s.top.blk.toNat default).ins.length fi))) (gE (i := 0) rfl rfl rfl oM rfl rfl rfl) rfl rfl (aO rfl) (⟨.inl rfl, ⟨.inl rfl, ⟨.inl rfl, ⟨.inl rfl, ⟨.inl rfl, ⟨.inl rfl, ⟨.inl rfl, trivial⟩⟩⟩⟩⟩⟩⟩) ?_
  refine dC (id := .a) (bK a7.log0 rfl) rfl rfl (fun _ _ _ _ => gR rfl rfl rfl) (⟨.inr trivial, ⟨.inr trivial, ⟨.inr trivial, ⟨.inr trivial, ⟨.inr trivial, ⟨.inr trivial, ⟨.inr trivial, ⟨.inr trivial, trivial⟩⟩⟩⟩⟩⟩⟩⟩) ?_
  rintro _ px _ ⟨d2, rfl, e5, _⟩ o7 mM
  replace e5 := HS.lg e5 a7 mM
  generalize ({ px with log := o7 } : Heap) = qV at e5 ⊢
  have e5 : HS _ _ _ [_, _, _, _, _, _, _, _, _, [(d2, .cells [(iI 0), (iI 0), (iI 0), (iI 0), (iI 0), (.slice none 0 0)] none false)]] _ := e5
  refine ed (id := .x [d2]) (aA (q := 9) e5.log0 rfl rfl rfl rfl rfl rfl rfl rfl rfl) rfl (by rintro _ _ _ ⟨_, hwr⟩; exact cE rfl rfl (Wr.did hwr)) (⟨.inl rfl, ⟨.inl rfl, ⟨.inl rfl, ⟨.inl rfl, ⟨.inl rfl, ⟨.inl rfl, ⟨.inl rfl, ⟨.inl rfl, ⟨.inl rfl, trivial⟩⟩⟩⟩⟩⟩⟩⟩⟩) ?_
  rintro _ py _ ⟨e6, _⟩ o8 mN
  replace e6 := HS.lg e6 e5 mN
  generalize ({ py with log := o8 } : Heap) = qW at e6 ⊢
  let A : Fp := [(d2, .cells [(iI ((s.top.code.blocks.getD s.top.blk.toNat default).ins.getD s.top.at_.toNat default).i.op), (iI ((s.top.code.blocks.getD s.top.blk.toNat default).ins.getD s.top.at_.toNat default).i.a), (iI ((s.top.code.blocks.getD s.top.blk.toNat default).ins.getD s.top.at_.toNat default).i.b), (iI ((s.top.code.blocks.getD s.top.blk.toNat default).ins.getD s.top.at_.toNat default).i.c), (iI ((s.top.code.blocks.getD s.top.blk.toNat default).ins.getD s.top.at_.toNat default).i.n), (.slice f1 ((s.top.code.blocks.getD s.top.blk.toNat default).ins.getD s.top.at_.toNat default).args.length g2)] none false)]
  have e6 : HS _ _ _ [_, _, _, _, _, _, _, _, _, A] _ := e6
  refine bz ?_
  refine aw 2 rfl ?_
  refine ae ?_
  refine wRo 7 0 [(3, .o (iI s.top.at_))] 50 56 [] [(54, (iI (s.top.at_ + 1))), (56, (.pointer (some ⟨bt.b, 6, none⟩)))] (vA (ql 3 6 (HS.hc e6 (i := 5) rfl) rfl rfl) (vA (vi (n := s.top.at_ + 1) (by omega)) trivial)) rfl fun _ => ?_
  refine aP (aA (q := 5) e6 rfl rfl rfl rfl rfl rfl rfl rfl rfl) rfl ?_
  rintro _ pz _ ⟨O, _⟩
  have O : HS _ _ _ [_, _, _, _, _, [(bt.b, .cells [(iI s.top.code.params), (iI s.top.code.regs), (.slice ba s.top.code.blocks.length bk), (.slice ra s.top.regs.length rk), (.slice aa s.top.args.length ak), (iI s.top.blk), (iI (s.top.at_ + 1)), (iI s.top.to_)] none false)], _, _, _, _] _ := O
  refine ao 2 rfl ?_
  refine wR 3 [(2, .o (iI ((s.top.code.blocks.getD s.top.blk.toNat default).ins.getD s.top.at_.toNat default).i.op))] 57 59 [] [(59, (iI ((s.top.code.blocks.getD s.top.blk.toNat default).ins.getD s.top.at_.toNat default).i.op))] (vA (ql 3 0 (HS.hc O (i := 9) rfl) rfl rfl) trivial) rfl fun _ => ?_
  refine wR 1 [] 65 66 [] [(65, (.bool (((s.top.code.blocks.getD s.top.blk.toNat default).ins.getD s.top.at_.toNat default).i.op == 3)))] trivial rfl fun _ => ?_
  refine am 2 1 (v := (((s.top.code.blocks.getD s.top.blk.toNat default).ins.getD s.top.at_.toNat default).i.op == 3)) rfl rfl rfl rfl (fun lM => ?_) (fun lM => ?_)
  ·
   try simp only [BS] at lM
   refine wR 1 [(3, .o (iI s.fuel))] 67 71 [] [(71, (.bool (s.fuel == 0)))] (vA (ql 3 3 (HS.hc O (i := 0) rfl) rfl rfl) trivial) rfl fun _ => ?_
   refine am 1 1 (v := (s.fuel == 0)) rfl rfl rfl rfl (fun lN => ?_) (fun lN => ?_)
   ·
    try simp only [BS] at lN
    refine ae ?_
    refine wm (.pointer (some ⟨b, 0, none⟩)) rfl rfl rfl ?_
    refine aF (ax rfl rfl rfl) rfl rfl (jU ex (3) (0) (0) (HS.callOwn O (i := 0) rfl)) ?_
    rintro _ rU ⟨hr, rfl⟩
    replace hr := HS.backOwn O (i := 0) rfl rfl (fun _ hb => hb) hr
    have hr : HS _ _ _ [[(b, .cells [(.slice la P.length lk), (.slice ca hd.length ck), (.slice pa (ps ++ [bt]).length pk), (iI s.fuel), (.bool true), (iI 3), (iI 0), (.slice oa s.out.length ok), (iI 0)] none false)], pc, pr, pp, pl, [(bt.b, .cells [(iI s.top.code.params), (iI s.top.code.regs), (.slice ba s.top.code.blocks.length bk), (.slice ra s.top.regs.length rk), (.slice aa s.top.args.length ak), (iI s.top.blk), (iI (s.top.at_ + 1)), (iI s.top.to_)] none false)], pg, po, I, A] _ := hr
    refine ao 1 rfl ?_
    exact aj ⟨.inr rfl, _, rfl, rfl, RunP.mk (bt := bt) (L := [I, A]) (by unfold bC; dsimp only [f5, gf, cC]; (repeat (first | rw [if_pos (by omega)] | rw [if_neg (by omega)] | rw [if_pos hlow] | rw [if_neg hlow] | (unfold cM; dsimp only [goT, aE]) | (unfold fF; dsimp only [aE]) | (unfold gg; dsimp only [cQ, aE]) | (unfold eS; dsimp only [cQ, aE]) | (unfold cH; dsimp only [aE]))); first | done | rfl | rw [hmap]) hr fR T y2 y3 y4 V (by omega) U x2 Z⟩
   ·
    try simp only [BS] at lN
    refine ae ?_
    refine wRo 7 0 [(3, .o (iI s.fuel))] 74 80 [] [(78, (iI (s.fuel - 1))), (80, (.pointer (some ⟨b, 3, none⟩)))] (vA (ql 3 3 (HS.hc O (i := 0) rfl) rfl rfl) (vA (vi (n := s.fuel - 1) (by omega)) trivial)) rfl fun _ => ?_
    refine aP (aA (q := 0) O rfl rfl rfl rfl rfl rfl rfl rfl rfl) rfl ?_
    rintro _ rV _ ⟨kk, _⟩
    have kk : HS _ _ _ [[(b, .cells [(.slice la P.length lk), (.slice ca hd.length ck), (.slice pa (ps ++ [bt]).length pk), (iI (s.fuel - 1)), (.bool s.over), (iI s.kind), (iI s.code), (.slice oa s.out.length ok), (iI s.val)] none false)], _, _, _, _, _, _, _, _, _] _ := kk
    refine ao 1 rfl ?_
    exact au ⟨.inl rfl, _, rfl, rfl, RunP.mk (bt := bt) (L := [I, A]) (by unfold bC; dsimp only [f5, gf, cC]; (repeat (first | rw [if_pos (by omega)] | rw [if_neg (by omega)] | rw [if_pos hlow] | rw [if_neg hlow] | (unfold cM; dsimp only [goT, aE]) | (unfold fF; dsimp only [aE]) | (unfold gg; dsimp only [cQ, aE]) | (unfold eS; dsimp only [cQ, aE]) | (unfold cH; dsimp only [aE]))); first | done | rfl | rw [hmap]) kk fR T y2 y3 y4 V y7 U x2 Z⟩
  ·
   try simp only [BS] at lM
   refine wR 1 [] 81 82 [] [(81, (.bool (((s.top.code.blocks.getD s.top.blk.toNat default).ins.getD s.top.at_.toNat default).i.op == 6)))] trivial rfl fun _ => ?_
   refine am 1 1 (v := (((s.top.code.blocks.getD s.top.blk.toNat default).ins.getD s.top.at_.toNat default).i.op == 6)) rfl rfl rfl rfl (fun lO => ?_) (fun lO => ?_)
   ·
    try simp only [BS] at lO
    have rl := hiC (by omega)
    refine aI rfl ?_
    refine fm (.pointer (some ⟨b, 0, none⟩)) rfl rfl rfl ?_
    refine ab (v := (.pointer (some ⟨b, 0, none⟩))) (id := .v) (bF rfl) rfl rfl (az rfl) (ay _) ?_
    refine ab (v := (.pointer (some ⟨b, 0, none⟩))) (id := .v) (aU rfl rfl) rfl rfl (az rfl) (ay _) ?_
    refine ab (v := (.slice la P.length lk)) (id := .l b) (aD (i := 0) rfl rfl (HS.hc O.log0 (i := 0) rfl) rfl rfl) rfl rfl (aO rfl) (⟨.inl rfl, ⟨.inl rfl, ⟨.inl rfl, trivial⟩⟩⟩) ?_
    refine ab (v := (.pointer (some ⟨d2, 0, none⟩))) (id := .v) (aU rfl rfl) rfl rfl (az rfl) (ay _) ?_
    refine ab (v := (.pointer (some ⟨d2, 4, none⟩))) (id := .v) (aU rfl rfl) rfl rfl (az rfl) (ay _) ?_
    refine ab (v := (iI ((s.top.code.blocks.getD s.top.blk.toNat default).ins.getD s.top.at_.toNat default).i.n)) (id := .l d2) (aD (i := 4) rfl rfl (HS.hc O.log0 (i := 9) rfl) rfl rfl) rfl rfl (aO rfl) (⟨.inl rfl, ⟨.inl rfl, ⟨.inr trivial, ⟨.inr trivial, ⟨.inr trivial, ⟨.inr trivial, trivial⟩⟩⟩⟩⟩⟩) ?_
    refine ab (v := (.pointer (some ⟨sB (.slice la P.length lk), sO (.slice la P.length lk) + ((s.top.code.blocks.getD s.top.blk.toNat default).ins.getD s.top.at_.toNat default).i.n.toNat * Rp.sz VFnT, none⟩))) (id := .v) (bh (α := VFnT) (j := ((s.top.code.blocks.getD s.top.blk.toNat default).ins.getD s.top.at_.toNat default).i.n) rfl rfl rfl rfl (SR.sv hP O.log0) (by omega) (by omega)) rfl rfl (az rfl) (ay _) ?_
    obtain ⟨rc, oX, oN⟩ := Sv.at (SR.sv hP O.log0) (aW (x := default) (show ((s.top.code.blocks.getD s.top.blk.toNat default).ins.getD s.top.at_.toNat default).i.n.toNat < P.length from by first | omega | exact hgr _ | exact aK wf.rows _ | (dsimp only; omega)))
    obtain ⟨dk, d1, rfl, qu, qv, g4⟩ := oX
    refine ab (v := (.agg ⟨[(iI (P.getD ((s.top.code.blocks.getD s.top.blk.toNat default).ins.getD s.top.at_.toNat default).i.n.toNat default).params), (iI (P.getD ((s.top.code.blocks.getD s.top.blk.toNat default).ins.getD s.top.at_.toNat default).i.n.toNat default).regs), (.slice dk (P.getD ((s.top.code.blocks.getD s.top.blk.toNat default).ins.getD s.top.at_.toNat default).i.n.toNat default).blocks.length d1)]⟩)) (id := .l (sB (.slice la P.length lk))) (gE (i := 0) rfl rfl rfl oN rfl rfl rfl) rfl rfl (aO rfl) (⟨.inl rfl, ⟨.inl rfl, ⟨.inl rfl, ⟨.inl rfl, ⟨.inl rfl, ⟨.inl rfl, ⟨.inl rfl, ⟨.inl rfl, trivial⟩⟩⟩⟩⟩⟩⟩⟩) ?_
    refine ab (v := (.pointer (some ⟨d2, 0, none⟩))) (id := .v) (aU rfl rfl) rfl rfl (az rfl) (ay _) ?_
    refine ab (v := (.pointer (some ⟨d2, 1, none⟩))) (id := .v) (aU rfl rfl) rfl rfl (az rfl) (ay _) ?_
    refine ab (v := (iI ((s.top.code.blocks.getD s.top.blk.toNat default).ins.getD s.top.at_.toNat default).i.a)) (id := .l d2) (aD (i := 1) rfl rfl (HS.hc O.log0 (i := 9) rfl) rfl rfl) rfl rfl (aO rfl) (⟨.inl rfl, ⟨.inl rfl, ⟨.inr trivial, ⟨.inr trivial, ⟨.inr trivial, ⟨.inr trivial, ⟨.inr trivial, ⟨.inr trivial, ⟨.inr trivial, ⟨.inr trivial, ⟨.inr trivial, trivial⟩⟩⟩⟩⟩⟩⟩⟩⟩⟩⟩) ?_
    refine ab (v := (.agg ⟨[(iI (P.getD ((s.top.code.blocks.getD s.top.blk.toNat default).ins.getD s.top.at_.toNat default).i.n.toNat default).params), (iI (P.getD ((s.top.code.blocks.getD s.top.blk.toNat default).ins.getD s.top.at_.toNat default).i.n.toNat default).regs), (.slice dk (P.getD ((s.top.code.blocks.getD s.top.blk.toNat default).ins.getD s.top.at_.toNat default).i.n.toNat default).blocks.length d1), (.slice none 0 0), (.slice none 0 0), (iI 0), (iI 0), (iI ((s.top.code.blocks.getD s.top.blk.toNat default).ins.getD s.top.at_.toNat default).i.a)]⟩)) (id := .v) (ap_bld rfl rfl (by kernel_rfl)) rfl rfl (az rfl) (ay _) ?_
    refine dC (id := .a) (cz O.log0 rfl rfl) rfl rfl (fun _ _ _ _ => gR rfl rfl rfl) (⟨.inl rfl, ⟨.inl rfl, ⟨.inl rfl, ⟨.inl rfl, ⟨.inl rfl, ⟨.inl rfl, ⟨.inl rfl, ⟨.inl rfl, ⟨.inl rfl, ⟨.inl rfl, ⟨.inl rfl, ⟨.inl rfl, ⟨.inl rfl, trivial⟩⟩⟩⟩⟩⟩⟩⟩⟩⟩⟩⟩⟩) ?_
    rintro _ pA _ ⟨a5, rfl, e9, _⟩ o9 mO
    replace e9 := HS.lg e9 O mO
    generalize ({ pA with log := o9 } : Heap) = qZ at e9 ⊢
    have e9 : HS _ _ _ [_, _, _, _, _, _, _, _, _, _, [(a5, .cells [(iI (P.getD ((s.top.code.blocks.getD s.top.blk.toNat default).ins.getD s.top.at_.toNat default).i.n.toNat default).params), (iI (P.getD ((s.top.code.blocks.getD s.top.blk.toNat default).ins.getD s.top.at_.toNat default).i.n.toNat default).regs), (.slice dk (P.getD ((s.top.code.blocks.getD s.top.blk.toNat default).ins.getD s.top.at_.toNat default).i.n.toNat default).blocks.length d1), (.slice none 0 0), (.slice none 0 0), (iI 0), (iI 0), (iI ((s.top.code.blocks.getD s.top.blk.toNat default).ins.getD s.top.at_.toNat default).i.a)] none false)]] _ := e9
    refine fa (.pointer (some ⟨a5, 0, none⟩)) rfl rfl rfl ?_
    refine bz ?_
    refine aw 3 rfl ?_
    refine wR 2 [(1, .o (.slice f1 ((s.top.code.blocks.getD s.top.blk.toNat default).ins.getD s.top.at_.toNat default).args.length g2))] 97 100 [] [(98, (.slice f1 ((s.top.code.blocks.getD s.top.blk.toNat default).ins.getD s.top.at_.toNat default).args.length g2)), (99, (iI (((s.top.code.blocks.getD s.top.blk.toNat default).ins.getD s.top.at_.toNat default).args.length : Int))), (100, (iI 0))] (vA (ql 25 5 (HS.hc e9 (i := 9) rfl) rfl rfl) trivial) rfl fun _ => ?_
    have kl := HS.snoc e9
    have kl : HS _ _ _ [_, _, _, _, _, _, _, _, _, _, _, []] _ := kl
    refine aG (fun (mm : Nat) f H' => ∃ (ag : List Int) (j : Nat) (a4 : Fp) (a2 : Option Addr) (a3 : Nat) (F' : Fz), Fz.le F F' ∧ HS (Base.of H (b :: q.map Prod.fst)) F' H' [ea, pc, pr, pp, pl, [(bt.b, .cells [(iI s.top.code.params), (iI s.top.code.regs), (.slice ba s.top.code.blocks.length bk), (.slice ra s.top.regs.length rk), (.slice aa s.top.args.length ak), (iI s.top.blk), (iI (s.top.at_ + 1)), (iI s.top.to_)] none false)], pg, po, I, A, [(a5, .cells [(iI (P.getD ((s.top.code.blocks.getD s.top.blk.toNat default).ins.getD s.top.at_.toNat default).i.n.toNat default).params), (iI (P.getD ((s.top.code.blocks.getD s.top.blk.toNat default).ins.getD s.top.at_.toNat default).i.n.toNat default).regs), (.slice dk (P.getD ((s.top.code.blocks.getD s.top.blk.toNat default).ins.getD s.top.at_.toNat default).i.n.toNat default).blocks.length d1), (.slice none 0 0), (.slice a2 ag.length a3), (iI 0), (iI 0), (iI ((s.top.code.blocks.getD s.top.blk.toNat default).ins.getD s.top.at_.toNat default).i.a)] none false)], a4] R ∧ OS F' (.slice a2 ag.length a3) ag a4 ∧ aZ f [(0, (.pointer (some ⟨b, 0, none⟩))), (2, (.pointer (some ⟨bt.b, 0, none⟩))), (5, (.pointer (some ⟨a5, 0, none⟩))), (98, (.slice f1 ((s.top.code.blocks.getD s.top.blk.toNat default).ins.getD s.top.at_.toNat default).args.length g2)), (99, (iI (((s.top.code.blocks.getD s.top.blk.toNat default).ins.getD s.top.at_.toNat default).args.length : Int))), (100, (iI (j : Int)))] ∧ mm = ((s.top.code.blocks.getD s.top.blk.toNat default).ins.getD s.top.at_.toNat default).args.length - j ∧ (ag = (((s.top.code.blocks.getD s.top.blk.toNat default).ins.getD s.top.at_.toNat default).args.take j).map (bw s.top.regs)) ∧ (j ≤ ((s.top.code.blocks.getD s.top.blk.toNat default).ins.getD s.top.at_.toNat default).args.length)) _ ⟨([] : List Int), 0, [], none, 0, _, fR, kl, (OS.nil : OS F (.slice none 0 0) ([] : List Int) []), (agC rfl (agC rfl (agC rfl (agC rfl (agC rfl (agC rfl agN)))))), rfl, (by rfl), (by omega)⟩ ?_
    rintro rr r7 pB ⟨ag, j, a4, a2, a3, rH, a9, dv, g3, lR, rfl, e, hj⟩ o0
    refine aN _ lR (fun _ => ?_)
    clear lR
    replace hk := hk.mono a9
    replace g4 := g4.mono a9
    replace U := U.mono a9
    replace x2 := x2.mono a9
    replace Z := Z.mono a9
    replace T := T.mono a9
    replace y3 := y3.mono a9
    replace V := V.mono a9
    replace y2 := SF.mono a9 y2
    replace y4 := FAM.mono (fun k => CR.mono a9 k) y4
    have hag : ag.length ≤ 6 := by rw [e, List.length_map, List.length_take]; omega
    have hga := hI.arg j
    refine aw 1 rfl ?_
    refine wR 2 [] 101 101 [] [(101, (.bool (decide ((j : Int) < (((s.top.code.blocks.getD s.top.blk.toNat default).ins.getD s.top.at_.toNat default).args.length : Int)))))] trivial rfl fun _ => ?_
    refine am 4 4 (v := (decide ((j : Int) < (((s.top.code.blocks.getD s.top.blk.toNat default).ins.getD s.top.at_.toNat default).args.length : Int)))) rfl rfl rfl rfl (fun lP => ?_) (fun lP => ?_)
    ·
     try simp only [BS] at lP
     obtain ⟨q7, mf⟩ := Sv.view (SR.sv hk dv)
     have r9 := fI (mf j)
     refine wR 1 [(1, .o (iI (((s.top.code.blocks.getD s.top.blk.toNat default).ins.getD s.top.at_.toNat default).args.getD j 0)))] 102 103 [7] [(7, (iI (((s.top.code.blocks.getD s.top.blk.toNat default).ins.getD s.top.at_.toNat default).args.getD j 0)))] (vA (Sv.ix (j := (j : Int)) (SR.sv hk dv) (by omega) (by omega)) (vA (ql 3 0 (vI (mf j) (by omega)) rfl rfl) trivial)) rfl fun _ => ?_
     refine aI rfl ?_
     refine fm (.pointer (some ⟨a5, 0, none⟩)) rfl rfl rfl ?_
     refine fm (.pointer (some ⟨a5, 0, none⟩)) rfl rfl rfl ?_
     refine ab (v := (.pointer (some ⟨a5, 0, none⟩))) (id := .v) (bF rfl) rfl rfl (az rfl) (ay _) ?_
     refine ab (v := (.pointer (some ⟨a5, 4, none⟩))) (id := .v) (aU rfl rfl) rfl rfl (az rfl) (ay _) ?_
     refine ab (v := (.slice a2 ag.length a3)) (id := .l a5) (aD (i := 4) rfl rfl (HS.hc dv.log0 (i := 10) rfl) rfl rfl) rfl rfl (aO rfl) (⟨.inl rfl, ⟨.inl rfl, ⟨.inl rfl, ⟨.inr trivial, trivial⟩⟩⟩⟩) ?_
     refine fm (.pointer (some ⟨bt.b, 0, none⟩)) rfl rfl rfl ?_
     refine fm (iI (((s.top.code.blocks.getD s.top.blk.toNat default).ins.getD s.top.at_.toNat default).args.getD j 0)) rfl rfl rfl ?_
     refine bm (W := []) (ax rfl rfl rfl) rfl rfl rfl (ic.jN ex s.top.regs (((s.top.code.blocks.getD s.top.blk.toNat default).ins.getD s.top.at_.toNat default).args.getD j 0) _ (HS.hc dv.log0 (i := 5) rfl) (OS.sv x2 dv.log0 (i := 6) rfl) (by omega) (by omega)) (⟨.inl rfl, ⟨.inl rfl, ⟨.inr List.not_mem_nil, ⟨.inr trivial, ⟨.inr trivial, ⟨.inr trivial, ⟨.inr trivial, trivial⟩⟩⟩⟩⟩⟩⟩) ?_
     rintro _ _ ⟨se, rfl, rfl, rfl⟩
     refine ⟨fun b hb => absurd hb List.not_mem_nil, fun pb mP => ?_⟩
     have kn := HS.lg dv.log0 dv mP
     generalize ({ { pB with log := [] } with log := pb } : Heap) = q0 at kn ⊢
     refine dC (id := .a) (cN (α := Int) (ps := [(0, (iI (bw s.top.regs (((s.top.code.blocks.getD s.top.blk.toNat default).ins.getD s.top.at_.toNat default).args.getD j 0))))]) (cells := [(iI (bw s.top.regs (((s.top.code.blocks.getD s.top.blk.toNat default).ins.getD s.top.at_.toNat default).args.getD j 0)))]) ([bw s.top.regs (((s.top.code.blocks.getD s.top.blk.toNat default).ins.getD s.top.at_.toNat default).args.getD j 0)] : List Int) kn.log0 rfl rfl rfl (by kernel_rfl) ⟨[(iI (bw s.top.regs (((s.top.code.blocks.getD s.top.blk.toNat default).ins.getD s.top.at_.toNat default).args.getD j 0)))], [], rfl, ⟨rfl, by first | omega | exact hgr _⟩, rfl⟩ rfl) rfl rfl (fun _ _ _ _ => gR rfl rfl rfl) (⟨.inl rfl, ⟨.inl rfl, ⟨.inl rfl, ⟨.inr trivial, ⟨.inr trivial, ⟨.inr trivial, ⟨.inr trivial, ⟨.inr trivial, trivial⟩⟩⟩⟩⟩⟩⟩⟩) ?_
     rintro _ pC pQ ⟨r1, sb, rfl, oQ, em, _⟩ pd mQ
     replace em := HS.lg em kn mQ
     generalize ({ pC with log := pd } : Heap) = q1 at em ⊢
     have em : HS _ _ _ [_, _, _, _, _, _, _, _, _, _, [(a5, .cells [(iI (P.getD ((s.top.code.blocks.getD s.top.blk.toNat default).ins.getD s.top.at_.toNat default).i.n.toNat default).params), (iI (P.getD ((s.top.code.blocks.getD s.top.blk.toNat default).ins.getD s.top.at_.toNat default).i.n.toNat default).regs), (.slice dk (P.getD ((s.top.code.blocks.getD s.top.blk.toNat default).ins.getD s.top.at_.toNat default).i.n.toNat default).blocks.length d1), (.slice none 0 0), (.slice a2 ag.length a3), (iI 0), (iI 0), (iI ((s.top.code.blocks.getD s.top.blk.toNat default).ins.getD s.top.at_.toNat default).i.a)] none false)], a4, pQ] _ := em
     refine dC (id := .x (a4.map Prod.fst)) (ev (α := Int) (q := 11) g3 em.log0 rfl rfl rfl (OS.sv oQ em.log0 (i := 12) rfl) rfl rfl rfl rfl rfl rfl rfl (by first | omega | (simp only [List.length_cons, List.length_nil]; omega))) rfl rfl (by rintro _ _ mj ⟨lA, mh, rfl, me, _, hwr⟩; exact cE rfl rfl (Wr.did hwr)) (⟨.inl rfl, ⟨.inl rfl, ⟨.inl rfl, ⟨.inl rfl, ⟨.inl rfl, ⟨.inl rfl, ⟨.inl rfl, ⟨.inl rfl, ⟨.inr trivial, trivial⟩⟩⟩⟩⟩⟩⟩⟩⟩) ?_
     rintro _ pD mj ⟨lA, mh, rfl, me, fd, _⟩ pe mR
     replace fd := HS.lg fd em mR
     generalize ({ pD with log := pe } : Heap) = q2 at fd ⊢
     have fd : HS _ _ _ [_, _, _, _, _, _, _, _, _, _, _, mj, _] _ := fd
     refine ab (v := (.pointer (some ⟨a5, 0, none⟩))) (id := .v) (bF rfl) rfl rfl (az rfl) (ay _) ?_
     refine ab (v := (.pointer (some ⟨a5, 4, none⟩))) (id := .v) (aU rfl rfl) rfl rfl (az rfl) (ay _) ?_
     refine ed (id := .x [a5]) (aA (q := 10) fd.log0 rfl rfl rfl rfl rfl rfl rfl rfl rfl) rfl (by rintro _ _ _ ⟨_, hwr⟩; exact cE rfl rfl (Wr.did hwr)) (⟨.inl rfl, ⟨.inl rfl, ⟨.inl rfl, ⟨.inl rfl, ⟨.inl rfl, ⟨.inl rfl, ⟨.inl rfl, ⟨.inl rfl, ⟨.inl rfl, ⟨.inl rfl, ⟨.inl rfl, ⟨.inl rfl, trivial⟩⟩⟩⟩⟩⟩⟩⟩⟩⟩⟩⟩) ?_
     rintro _ pE _ ⟨g6, _⟩ pf mS
     replace g6 := HS.lg g6 fd mS
     generalize ({ pE with log := pf } : Heap) = q3 at g6 ⊢
     have g6 : HS _ _ _ [_, _, _, _, _, _, _, _, _, _, [(a5, .cells [(iI (P.getD ((s.top.code.blocks.getD s.top.blk.toNat default).ins.getD s.top.at_.toNat default).i.n.toNat default).params), (iI (P.getD ((s.top.code.blocks.getD s.top.blk.toNat default).ins.getD s.top.at_.toNat default).i.n.toNat default).regs), (.slice dk (P.getD ((s.top.code.blocks.getD s.top.blk.toNat default).ins.getD s.top.at_.toNat default).i.n.toNat default).blocks.length d1), (.slice none 0 0), (.slice lA (ag ++ ([bw s.top.regs (((s.top.code.blocks.getD s.top.blk.toNat default).ins.getD s.top.at_.toNat default).args.getD j 0)] : List Int)).length mh), (iI 0), (iI 0), (iI ((s.top.code.blocks.getD s.top.blk.toNat default).ins.getD s.top.at_.toNat default).i.a)] none false)], _, _] _ := g6
     refine bz ?_
     refine aw 2 rfl ?_
     refine wR 1 [] 100 100 [116] [(100, (iI ((j : Int) + 1)))] (vA (vi (n := (j : Int) + 1) (by omega)) trivial) rfl fun _ => ?_
     refine o0 _ _ _ ?_ ⟨ag ++ ([bw s.top.regs (((s.top.code.blocks.getD s.top.blk.toNat default).ins.getD s.top.at_.toNat default).args.getD j 0)] : List Int), j + 1, mj, lA, mh, _, (a9), (HS.sub g6 (List.sublist_append_left _ _)), me, (agC rfl (agC rfl (agC rfl (agC rfl (agC rfl (agC rfl agN)))))), rfl, (by exact kF e (by omega)), (by omega)⟩
     omega
    ·
     try simp only [BS] at lP
     have hmap := map_all e (by omega)
     refine ae ?_
     refine wRo 6 0 [(4, .o (.slice pa (ps ++ [bt]).length pk))] 117 122 [] [(117, (.pointer (some ⟨b, 0, none⟩))), (121, (.slice pa (ps ++ [bt]).length pk)), (122, (.pointer (some ⟨a5, 0, none⟩)))] (vA (ql 110 2 (HS.hc dv (i := 0) rfl) rfl rfl) trivial) rfl fun _ => ?_
     refine bd (cN (α := PtrT) (ps := [(0, (.pointer (some ⟨a5, 0, none⟩)))]) (cells := [(.pointer (some ⟨a5, 0, none⟩))]) ([(⟨a5⟩ : PtrT)] : List PtrT) dv rfl rfl rfl (by kernel_rfl) ⟨[(.pointer (some ⟨a5, 0, none⟩))], [], rfl, rfl, rfl⟩ rfl) rfl rfl ?_
     rintro _ rY lv ⟨r2, sc, rfl, oR, hK, _⟩
     let k3 : Fp := [(a5, .cells [(iI (P.getD ((s.top.code.blocks.getD s.top.blk.toNat default).ins.getD s.top.at_.toNat default).i.n.toNat default).params), (iI (P.getD ((s.top.code.blocks.getD s.top.blk.toNat default).ins.getD s.top.at_.toNat default).i.n.toNat default).regs), (.slice dk (P.getD ((s.top.code.blocks.getD s.top.blk.toNat default).ins.getD s.top.at_.toNat default).i.n.toNat default).blocks.length d1), (.slice none 0 0), (.slice a2 ag.length a3), (iI 0), (iI 0), (iI ((s.top.code.blocks.getD s.top.blk.toNat default).ins.getD s.top.at_.toNat default).i.a)] none false)]
     have hK : HS _ _ _ [_, _, _, _, _, _, _, _, _, _, k3, a4, lv] _ := hK
     refine bd (ev (α := PtrT) (q := 3) y3 hK rfl rfl rfl (OS.sv oR hK (i := 12) rfl) rfl rfl rfl rfl rfl rfl rfl (by first | omega | (simp only [List.length_append, List.length_cons, List.length_nil]; omega))) rfl rfl ?_
     rintro _ rZ ml ⟨pF, pN, rfl, ih, kp, _⟩
     have kp : HS _ _ _ [_, _, _, ml, _, _, _, _, _, _, _, _, _] _ := kp
     refine wRo 2 8 [] 125 126 [] [(126, (.pointer (some ⟨b, 2, none⟩)))] trivial rfl fun _ => ?_
     refine aP (aA (q := 0) kp rfl rfl rfl rfl rfl rfl rfl rfl rfl) rfl ?_
     rintro _ r0 _ ⟨kr, _⟩
     let k4 : Fp := [(b, .cells [(.slice la P.length lk), (.slice ca hd.length ck), (.slice pF ((ps ++ [bt]) ++ ([(⟨a5⟩ : PtrT)] : List PtrT)).length pN), (iI s.fuel), (.bool s.over), (iI s.kind), (iI s.code), (.slice oa s.out.length ok), (iI s.val)] none false)]
     have kr : HS _ _ _ [k4, _, _, _, _, _, _, _, _, _, _, _, _] _ := kr
     refine ao 1 rfl ?_
     obtain ⟨rI, c8, kt, oY, rm⟩ := OS.frz g3 kr (i := 11) rfl
     have kt : HS _ _ _ [_, _, _, _, _, _, _, _, _, _, _, [], _] _ := kt
     replace ih := ih.mono c8
     replace g4 := g4.mono c8
     replace U := U.mono c8
     replace x2 := x2.mono c8
     replace Z := Z.mono c8
     replace T := T.mono c8
     replace V := V.mono c8
     replace y2 := SF.mono c8 y2
     replace y4 := FAM.mono (fun k => CR.mono c8 k) y4
     obtain ⟨lw, q5, hM, mU⟩ := pool_push (⟨⟨s.top.code.params, s.top.code.regs, s.top.code.blocks⟩, s.top.regs, s.top.args, s.top.blk, (s.top.at_ + 1), s.top.to_⟩ : CalT) y4 kt rfl rfl rfl U x2 Z
     have hM : HS _ _ _ [k4, pc, pr, ml, lw, [], [], po, I, A, k3, [], lv] _ := hM
     have nk : HS _ _ _ [k4, pc, pr, ml, lw, k3, [], po, [], I, A, [], lv] _ := HS.flat hM (gN [0, 1, 2, 3, 4, 10, 6, 7, 5, 8, 9, 11, 12] rfl (show List.Perm [0, 1, 2, 3, 4, 10, 6, 7, 5, 8, 9, 11, 12] (List.range 13) by decide))
     exact au ⟨.inl rfl, _, rfl, rfl, RunP.mk (bt := ⟨a5⟩) (L := [[], I, A, [], lv]) (by unfold bC; dsimp only [f5, gf, cC]; (repeat (first | rw [if_pos (by omega)] | rw [if_neg (by omega)] | rw [if_pos hlow] | rw [if_neg hlow] | (unfold cM; dsimp only [goT, aE]) | (unfold fF; dsimp only [aE]) | (unfold gg; dsimp only [cQ, aE]) | (unfold eS; dsimp only [cQ, aE]) | (unfold cH; dsimp only [aE]))); first | done | rfl | rw [hmap]) nk (fT (a9) c8) T y2 ih mU V y7 g4 OS.nil oY⟩
   ·
    try simp only [BS] at lO
    refine wR 1 [] 127 128 [] [(127, (.bool (((s.top.code.blocks.getD s.top.blk.toNat default).ins.getD s.top.at_.toNat default).i.op == 9)))] trivial rfl fun _ => ?_
    refine am 0 2 (v := (((s.top.code.blocks.getD s.top.blk.toNat default).ins.getD s.top.at_.toNat default).i.op == 9)) rfl rfl rfl rfl (fun lQ => ?_) (fun lQ => ?_)
    ·
     try simp only [BS] at lQ
     refine aI rfl ?_
     refine fm (.pointer (some ⟨b, 0, none⟩)) rfl rfl rfl ?_
     refine fm (.pointer (some ⟨b, 0, none⟩)) rfl rfl rfl ?_
     refine ab (v := (.pointer (some ⟨b, 0, none⟩))) (id := .v) (bF rfl) rfl rfl (az rfl) (ay _) ?_
     refine ab (v := (.pointer (some ⟨b, 5, none⟩))) (id := .v) (aU rfl rfl) rfl rfl (az rfl) (ay _) ?_
     refine ab (v := (.pointer (some ⟨b, 7, none⟩))) (id := .v) (aU rfl rfl) rfl rfl (az rfl) (ay _) ?_
     refine ab (v := (.slice oa s.out.length ok)) (id := .l b) (aD (i := 7) rfl rfl (HS.hc O.log0 (i := 0) rfl) rfl rfl) rfl rfl (aO rfl) (⟨.inl rfl, ⟨.inl rfl, ⟨.inl rfl, ⟨.inl rfl, ⟨.inr trivial, trivial⟩⟩⟩⟩⟩) ?_
     refine fm (.pointer (some ⟨bt.b, 0, none⟩)) rfl rfl rfl ?_
     refine ab (v := (.pointer (some ⟨d2, 0, none⟩))) (id := .v) (aU rfl rfl) rfl rfl (az rfl) (ay _) ?_
     refine ab (v := (.pointer (some ⟨d2, 1, none⟩))) (id := .v) (aU rfl rfl) rfl rfl (az rfl) (ay _) ?_
     refine ab (v := (iI ((s.top.code.blocks.getD s.top.blk.toNat default).ins.getD s.top.at_.toNat default).i.a)) (id := .l d2) (aD (i := 1) rfl rfl (HS.hc O.log0 (i := 9) rfl) rfl rfl) rfl rfl (aO rfl) (⟨.inl rfl, ⟨.inl rfl, ⟨.inr trivial, ⟨.inr trivial, ⟨.inr trivial, ⟨.inr trivial, ⟨.inr trivial, ⟨.inr trivial, ⟨.inr trivial, trivial⟩⟩⟩⟩⟩⟩⟩⟩⟩) ?_
     refine bm (W := []) (ax rfl rfl rfl) rfl rfl rfl (ic.jN ex s.top.regs ((s.top.code.blocks.getD s.top.blk.toNat default).ins.getD s.top.at_.toNat default).i.a _ (HS.hc O.log0 (i := 5) rfl) (OS.sv x2 O.log0 (i := 6) rfl) (by omega) (by omega)) (⟨.inl rfl, ⟨.inl rfl, ⟨.inl rfl, ⟨.inl rfl, ⟨.inr List.not_mem_nil, ⟨.inr trivial, ⟨.inr trivial, ⟨.inr trivial, ⟨.inr trivial, ⟨.inr trivial, trivial⟩⟩⟩⟩⟩⟩⟩⟩⟩⟩) ?_
     rintro _ _ ⟨sf, rfl, rfl, rfl⟩
     refine ⟨fun b hb => absurd hb List.not_mem_nil, fun ph mT => ?_⟩
     have kv := HS.lg O.log0 O mT
     generalize ({ { pz with log := [] } with log := ph } : Heap) = q4 at kv ⊢
     refine dC (id := .a) (cN (α := Int) (ps := [(0, (iI (bw s.top.regs ((s.top.code.blocks.getD s.top.blk.toNat default).ins.getD s.top.at_.toNat default).i.a)))]) (cells := [(iI (bw s.top.regs ((s.top.code.blocks.getD s.top.blk.toNat default).ins.getD s.top.at_.toNat default).i.a))]) ([bw s.top.regs ((s.top.code.blocks.getD s.top.blk.toNat default).ins.getD s.top.at_.toNat default).i.a] : List Int) kv.log0 rfl rfl rfl (by kernel_rfl) ⟨[(iI (bw s.top.regs ((s.top.code.blocks.getD s.top.blk.toNat default).ins.getD s.top.at_.toNat default).i.a))], [], rfl, ⟨rfl, by first | omega | exact hgr _⟩, rfl⟩ rfl) rfl rfl (fun _ _ _ _ => gR rfl rfl rfl) (⟨.inl rfl, ⟨.inl rfl, ⟨.inl rfl, ⟨.inl rfl, ⟨.inl rfl, ⟨.inr trivial, ⟨.inr trivial, ⟨.inr trivial, ⟨.inr trivial, ⟨.inr trivial, ⟨.inr trivial, trivial⟩⟩⟩⟩⟩⟩⟩⟩⟩⟩⟩) ?_
     rintro _ oy ow ⟨r3, sd, rfl, oS, c6, _⟩ nm lS
     replace c6 := HS.lg c6 kv lS
     generalize ({ oy with log := nm } : Heap) = pU at c6 ⊢
     have c6 : HS _ _ _ [_, _, _, _, _, _, _, _, _, _, ow] _ := c6
     refine dC (id := .x (po.map Prod.fst)) (ev (α := Int) (q := 7) V c6.log0 rfl rfl rfl (OS.sv oS c6.log0 (i := 10) rfl) rfl rfl rfl rfl rfl rfl rfl (by first | omega | (simp only [List.length_cons, List.length_nil]; omega))) rfl rfl (by rintro _ _ mi ⟨lz, mg, rfl, lp, _, hwr⟩; exact cE rfl rfl (Wr.did hwr)) (⟨.inl rfl, ⟨.inl rfl, ⟨.inl rfl, ⟨.inl rfl, ⟨.inl rfl, ⟨.inl rfl, ⟨.inl rfl, ⟨.inl rfl, ⟨.inl rfl, ⟨.inl rfl, ⟨.inl rfl, ⟨.inr trivial, trivial⟩⟩⟩⟩⟩⟩⟩⟩⟩⟩⟩⟩) ?_
     rintro _ oz mi ⟨lz, mg, rfl, lp, dl, _⟩ nn lT
     replace dl := HS.lg dl c6 lT
     generalize ({ oz with log := nn } : Heap) = pV at dl ⊢
     have dl : HS _ _ _ [_, _, _, _, _, _, _, mi, _, _, _] _ := dl
     refine ab (v := (.pointer (some ⟨b, 0, none⟩))) (id := .v) (bF rfl) rfl rfl (az rfl) (ay _) ?_
     refine ab (v := (.pointer (some ⟨b, 5, none⟩))) (id := .v) (aU rfl rfl) rfl rfl (az rfl) (ay _) ?_
     refine ab (v := (.pointer (some ⟨b, 7, none⟩))) (id := .v) (aU rfl rfl) rfl rfl (az rfl) (ay _) ?_
     refine ed (id := .x [b]) (aA (q := 0) dl.log0 rfl rfl rfl rfl rfl rfl rfl rfl rfl) rfl (by rintro _ _ _ ⟨_, hwr⟩; exact cE rfl rfl (Wr.did hwr)) (⟨.inl rfl, ⟨.inl rfl, ⟨.inl rfl, ⟨.inl rfl, ⟨.inl rfl, ⟨.inl rfl, ⟨.inl rfl, ⟨.inl rfl, ⟨.inl rfl, ⟨.inl rfl, ⟨.inl rfl, ⟨.inl rfl, ⟨.inl rfl, ⟨.inl rfl, ⟨.inl rfl, ⟨.inl rfl, trivial⟩⟩⟩⟩⟩⟩⟩⟩⟩⟩⟩⟩⟩⟩⟩⟩) ?_
     rintro _ oA _ ⟨ez, _⟩ np lU
     replace ez := HS.lg ez dl lU
     generalize ({ oA with log := np } : Heap) = pW at ez ⊢
     have ez : HS _ _ _ [[(b, .cells [(.slice la P.length lk), (.slice ca hd.length ck), (.slice pa (ps ++ [bt]).length pk), (iI s.fuel), (.bool s.over), (iI s.kind), (iI s.code), (.slice lz (s.out ++ ([bw s.top.regs ((s.top.code.blocks.getD s.top.blk.toNat default).ins.getD s.top.at_.toNat default).i.a] : List Int)).length mg), (iI s.val)] none false)], _, _, _, _, _, _, _, _, _, _] _ := ez
     refine bz ?_
     refine aw 1 rfl ?_
     exact au ⟨.inl rfl, _, rfl, rfl, RunP.mk (bt := bt) (L := [I, A, ow]) (by unfold bC; dsimp only [f5, gf, cC]; (repeat (first | rw [if_pos (by omega)] | rw [if_neg (by omega)] | rw [if_pos hlow] | rw [if_neg hlow] | (unfold cM; dsimp only [goT, aE]) | (unfold fF; dsimp only [aE]) | (unfold gg; dsimp only [cQ, aE]) | (unfold eS; dsimp only [cQ, aE]) | (unfold cH; dsimp only [aE]))); first | done | rfl | rw [hmap]) ez fR T y2 y3 y4 lp y7 U x2 Z⟩
    ·
     try simp only [BS] at lQ
     refine wR 1 [] 145 146 [] [(145, (.bool (((s.top.code.blocks.getD s.top.blk.toNat default).ins.getD s.top.at_.toNat default).i.op == 34)))] trivial rfl fun _ => ?_
     refine am 1 0 (v := (((s.top.code.blocks.getD s.top.blk.toNat default).ins.getD s.top.at_.toNat default).i.op == 34)) rfl rfl rfl rfl (fun es => ?_) (fun es => ?_)
     ·
      have hV := es
      try simp only [BS] at hV
      refine be 0 (v := (((s.top.code.blocks.getD s.top.blk.toNat default).ins.getD s.top.at_.toNat default).i.op == 34)) rfl es rfl rfl ?_
      refine ae ?_
      let mu : Value := (.agg ⟨[(iI ((s.top.code.blocks.getD s.top.blk.toNat default).ins.getD s.top.at_.toNat default).i.op), (iI ((s.top.code.blocks.getD s.top.blk.toNat default).ins.getD s.top.at_.toNat default).i.a), (iI ((s.top.code.blocks.getD s.top.blk.toNat default).ins.getD s.top.at_.toNat default).i.b), (iI ((s.top.code.blocks.getD s.top.blk.toNat default).ins.getD s.top.at_.toNat default).i.c), (iI ((s.top.code.blocks.getD s.top.blk.toNat default).ins.getD s.top.at_.toNat default).i.n)]⟩)
      refine wRo 4 0 [(3, .o mu)] 148 151 [] [(148, (.pointer (some ⟨b, 0, none⟩))), (149, (.pointer (some ⟨bt.b, 0, none⟩))), (151, mu)] (vA (qn 45 0 5 (HS.hc O (i := 9) rfl) rfl rfl rfl rfl) trivial) rfl fun _ => ?_
      refine aF (R := fun v H' => v = .tuple #[] ∧ RunP (.of H (b :: q.map Prod.fst)) F R P la lk b (bC P s) H') (ax rfl rfl rfl) rfl rfl ?_ ?_
      ·
       refine aL Tryd.func88 rfl rfl ?_
       refine aw 1 rfl ?_
       refine ae ?_
       refine bd (cz O rfl rfl) rfl rfl ?_
       rintro _ ly _ ⟨hT, rfl, dn, _⟩
       let hu : Fp := [(hT, .cells [(iI ((s.top.code.blocks.getD s.top.blk.toNat default).ins.getD s.top.at_.toNat default).i.op), (iI ((s.top.code.blocks.getD s.top.blk.toNat default).ins.getD s.top.at_.toNat default).i.a), (iI ((s.top.code.blocks.getD s.top.blk.toNat default).ins.getD s.top.at_.toNat default).i.b), (iI ((s.top.code.blocks.getD s.top.blk.toNat default).ins.getD s.top.at_.toNat default).i.c), (iI ((s.top.code.blocks.getD s.top.blk.toNat default).ins.getD s.top.at_.toNat default).i.n)] none false)]
       have dn : HS _ _ _ [_, _, _, _, _, _, _, _, _, _, hu] _ := dn
       refine ao 2 rfl ?_
       obtain ⟨hw, g7, a1, bl, k7⟩ := SF.open y2 dn (q := 2) (i := ((s.top.code.blocks.getD s.top.blk.toNat default).ins.getD s.top.at_.toNat default).i.n.toNat) rfl (by omega)
       have a1 : HS _ _ _ [_, _, hw, _, _, _, _, _, _, _, _, g7] _ := a1
       have bl : OS F (.slice (hd.getD ((s.top.code.blocks.getD s.top.blk.toNat default).ins.getD s.top.at_.toNat default).i.n.toNat default).a (hd.getD ((s.top.code.blocks.getD s.top.blk.toNat default).ins.getD s.top.at_.toNat default).i.n.toNat default).n (hd.getD ((s.top.code.blocks.getD s.top.blk.toNat default).ins.getD s.top.at_.toNat default).i.n.toNat default).k) (s.cells.getD ((s.top.code.blocks.getD s.top.blk.toNat default).ins.getD s.top.at_.toNat default).i.n.toNat default) g7 := bl
       have qw := OS.nlen bl
       refine wRD 3 [(2, .o (iI ((s.top.code.blocks.getD s.top.blk.toNat default).ins.getD s.top.at_.toNat default).i.n)), (5, .o (iI ((s.top.code.blocks.getD s.top.blk.toNat default).ins.getD s.top.at_.toNat default).i.b)), (6, .o (iI (bw s.top.regs ((s.top.code.blocks.getD s.top.blk.toNat default).ins.getD s.top.at_.toNat default).i.b))), (7, .o (.pointer (cellA (hd.getD ((s.top.code.blocks.getD s.top.blk.toNat default).ins.getD s.top.at_.toNat default).i.n.toNat default) (bw s.top.regs ((s.top.code.blocks.getD s.top.blk.toNat default).ins.getD s.top.at_.toNat default).i.b))))] 7 14 [6] [(6, (.pointer (cellA (hd.getD ((s.top.code.blocks.getD s.top.blk.toNat default).ins.getD s.top.at_.toNat default).i.n.toNat default) (bw s.top.regs ((s.top.code.blocks.getD s.top.blk.toNat default).ins.getD s.top.at_.toNat default).i.b))))] (vA (ql 2 4 (hc0 (HS.hc dn (i := 10) rfl)) rfl rfl) (vA (ql 3 2 (hc0 (HS.hc dn (i := 10) rfl)) rfl rfl) (vA (ic.fc ex s.top.regs ((s.top.code.blocks.getD s.top.blk.toNat default).ins.getD s.top.at_.toNat default).i.b { ly with log := [] } (hc0 (HS.hc dn (i := 5) rfl)) (sv0 (OS.sv x2 dn (i := 6) rfl)) (by first | omega | exact hgr _ | exact aK wf.rows _ | (dsimp only; omega)) (by first | omega | exact hgr _ | exact aK wf.rows _ | (dsimp only; omega))) (vA (ic.cell_c_q ex hd (s.cells.getD ((s.top.code.blocks.getD s.top.blk.toNat default).ins.getD s.top.at_.toNat default).i.n.toNat default) ((s.top.code.blocks.getD s.top.blk.toNat default).ins.getD s.top.at_.toNat default).i.n (bw s.top.regs ((s.top.code.blocks.getD s.top.blk.toNat default).ins.getD s.top.at_.toNat default).i.b) { ly with log := [] } (hc0 (HS.hc a1 (i := 0) rfl)) (sv0 (OS.sv T a1 (i := 1) rfl)) (sv0 (OS.sv bl a1 (i := 11) rfl)) (by first | omega | exact hgr _ | exact aK wf.rows _ | (dsimp only; omega)) (by first | omega | exact hgr _ | exact aK wf.rows _ | (dsimp only; omega))) trivial)))) rfl rfl fun _ => ?_
       by_cases hb : 0 ≤ bw s.top.regs ((s.top.code.blocks.getD s.top.blk.toNat default).ins.getD s.top.at_.toNat default).i.b ∧ bw s.top.regs ((s.top.code.blocks.getD s.top.blk.toNat default).ins.getD s.top.at_.toNat default).i.b < ((hd.getD ((s.top.code.blocks.getD s.top.blk.toNat default).ins.getD s.top.at_.toNat default).i.n.toNat default).n : Int)
       ·
        rw [cell_in hb]
        refine wR 1 [] 21 23 [] [(21, (.bool false))] trivial rfl fun _ => ?_
        refine wk_iff 1 (v := false) rfl rfl rfl rfl ?_
        refine wR 1 [(1, .o (iI ((s.top.code.blocks.getD s.top.blk.toNat default).ins.getD s.top.at_.toNat default).i.op))] 26 29 [] [(26, (.bool (((s.top.code.blocks.getD s.top.blk.toNat default).ins.getD s.top.at_.toNat default).i.op == 34)))] (vA (ql 3 0 (HS.hc a1 (i := 10) rfl) rfl rfl) trivial) rfl fun _ => ?_
        refine be 0 (v := (((s.top.code.blocks.getD s.top.blk.toNat default).ins.getD s.top.at_.toNat default).i.op == 34)) rfl es rfl rfl ?_
        refine aI rfl ?_
        refine fm (.pointer (some ⟨bt.b, 0, none⟩)) rfl rfl rfl ?_
        refine ab (v := (.pointer (some ⟨hT, 1, none⟩))) (id := .v) (aU rfl rfl) rfl rfl (az rfl) (ay _) ?_
        refine ab (v := (iI ((s.top.code.blocks.getD s.top.blk.toNat default).ins.getD s.top.at_.toNat default).i.a)) (id := .l hT) (aD (i := 1) rfl rfl (HS.hc a1.log0 (i := 10) rfl) rfl rfl) rfl rfl (aO rfl) (⟨.inl rfl, ⟨.inr trivial, trivial⟩⟩) ?_
        refine fm (.pointer (some ⟨sB (.slice (hd.getD ((s.top.code.blocks.getD s.top.blk.toNat default).ins.getD s.top.at_.toNat default).i.n.toNat default).a (hd.getD ((s.top.code.blocks.getD s.top.blk.toNat default).ins.getD s.top.at_.toNat default).i.n.toNat default).n (hd.getD ((s.top.code.blocks.getD s.top.blk.toNat default).ins.getD s.top.at_.toNat default).i.n.toNat default).k), sO (.slice (hd.getD ((s.top.code.blocks.getD s.top.blk.toNat default).ins.getD s.top.at_.toNat default).i.n.toNat default).a (hd.getD ((s.top.code.blocks.getD s.top.blk.toNat default).ins.getD s.top.at_.toNat default).i.n.toNat default).n (hd.getD ((s.top.code.blocks.getD s.top.blk.toNat default).ins.getD s.top.at_.toNat default).i.n.toNat default).k) + (bw s.top.regs ((s.top.code.blocks.getD s.top.blk.toNat default).ins.getD s.top.at_.toNat default).i.b).toNat * Rp.sz Int, none⟩)) rfl rfl rfl ?_
        refine ab (v := (.pointer (some ⟨sB (.slice (hd.getD ((s.top.code.blocks.getD s.top.blk.toNat default).ins.getD s.top.at_.toNat default).i.n.toNat default).a (hd.getD ((s.top.code.blocks.getD s.top.blk.toNat default).ins.getD s.top.at_.toNat default).i.n.toNat default).n (hd.getD ((s.top.code.blocks.getD s.top.blk.toNat default).ins.getD s.top.at_.toNat default).i.n.toNat default).k), sO (.slice (hd.getD ((s.top.code.blocks.getD s.top.blk.toNat default).ins.getD s.top.at_.toNat default).i.n.toNat default).a (hd.getD ((s.top.code.blocks.getD s.top.blk.toNat default).ins.getD s.top.at_.toNat default).i.n.toNat default).n (hd.getD ((s.top.code.blocks.getD s.top.blk.toNat default).ins.getD s.top.at_.toNat default).i.n.toNat default).k) + (bw s.top.regs ((s.top.code.blocks.getD s.top.blk.toNat default).ins.getD s.top.at_.toNat default).i.b).toNat * Rp.sz Int, none⟩))) (id := .v) (bF rfl) rfl rfl (az rfl) (ay _) ?_
        obtain ⟨qd, mV, mF⟩ := Sv.at (OS.sv bl a1.log0 (i := 11) rfl) (aW (x := (0 : Int)) (show (bw s.top.regs ((s.top.code.blocks.getD s.top.blk.toNat default).ins.getD s.top.at_.toNat default).i.b).toNat < (s.cells.getD ((s.top.code.blocks.getD s.top.blk.toNat default).ins.getD s.top.at_.toNat default).i.n.toNat default).length from by first | omega | exact hgr _ | exact aK wf.rows _ | (dsimp only; omega)))
        obtain ⟨rfl, pH⟩ := mV
        refine ab (v := (iI ((s.cells.getD ((s.top.code.blocks.getD s.top.blk.toNat default).ins.getD s.top.at_.toNat default).i.n.toNat default).getD (bw s.top.regs ((s.top.code.blocks.getD s.top.blk.toNat default).ins.getD s.top.at_.toNat default).i.b).toNat 0))) (id := .l (sB (.slice (hd.getD ((s.top.code.blocks.getD s.top.blk.toNat default).ins.getD s.top.at_.toNat default).i.n.toNat default).a (hd.getD ((s.top.code.blocks.getD s.top.blk.toNat default).ins.getD s.top.at_.toNat default).i.n.toNat default).n (hd.getD ((s.top.code.blocks.getD s.top.blk.toNat default).ins.getD s.top.at_.toNat default).i.n.toNat default).k))) (aD (i := 0) rfl rfl mF rfl rfl) rfl rfl (aO rfl) (⟨.inl rfl, ⟨.inl rfl, ⟨.inr trivial, ⟨.inr trivial, ⟨.inr trivial, trivial⟩⟩⟩⟩⟩) ?_
        refine bm (W := (bt.b :: pg.map Prod.fst)) (ax rfl rfl rfl) rfl rfl rfl (i9 ex s.top.regs ((s.top.code.blocks.getD s.top.blk.toNat default).ins.getD s.top.at_.toNat default).i.a ((s.cells.getD ((s.top.code.blocks.getD s.top.blk.toNat default).ins.getD s.top.at_.toNat default).i.n.toNat default).getD (bw s.top.regs ((s.top.code.blocks.getD s.top.blk.toNat default).ins.getD s.top.at_.toNat default).i.b).toNat 0) (HS.call2 a1.log0 (i := 5) (j := 6) (by decide) rfl rfl) x2 (by omega) (by omega) (by omega)) (⟨.inl rfl, ⟨.inl rfl, ⟨.inl rfl, ⟨.inl rfl, ⟨.inl rfl, ⟨.inl rfl, trivial⟩⟩⟩⟩⟩⟩) ?_
        rintro _ oB ⟨nT, og, n4, nJ, qz, bb, b0, rfl, mW⟩
        refine ⟨HS.didW b0, fun nq lV => ?_⟩
        replace b0 := HS.back2 a1.log0 (i := 5) (j := 6) (by decide) rfl rfl rfl (fun _ hb => hb) b0
        replace b0 := HS.lg b0 a1 lV
        generalize ({ oB with log := nq } : Heap) = pX at b0 ⊢
        have b0 : HS _ _ _ [ea, pc, hw, pp, pl, [(bt.b, .cells [(iI s.top.code.params), (iI s.top.code.regs), (.slice ba s.top.code.blocks.length bk), (.slice nT og n4), (.slice aa s.top.args.length ak), (iI s.top.blk), (iI (s.top.at_ + 1)), (iI s.top.to_)] none false)], nJ, po, I, A, hu, g7] _ := b0
        replace bl := bl.mono bb
        replace U := U.mono bb
        replace Z := Z.mono bb
        replace T := T.mono bb
        replace y3 := y3.mono bb
        replace V := V.mono bb
        replace y4 := FAM.mono (fun k => CR.mono bb k) y4
        refine bz ?_
        refine aw 1 rfl ?_
        obtain ⟨mB, hy, k9⟩ := SF.shut0 k7 (bb) b0 (q := 2) (m := 11) (by decide) rfl rfl bl
        have hy : HS _ _ _ [_, _, mB, _, _, _, _, _, _, _, _, []] _ := hy
        have qf := FAM.len k9
        exact au ⟨.inl rfl, _, rfl, rfl, RunP.mk (bt := bt) (L := [I, A, hu, []]) (by unfold bC; dsimp only [f5, gf, cC]; (repeat (first | rw [if_pos (by omega)] | rw [if_neg (by omega)] | rw [if_pos hlow] | rw [if_neg hlow] | (unfold cM; dsimp only [goT, aE]) | (unfold fF; dsimp only [aE]) | (unfold gg; dsimp only [cQ, aE]) | (unfold eS; dsimp only [cQ, aE]) | (unfold cH; dsimp only [aE]))); first | done | rfl | rw [hmap]) hy (bb) T k9 y3 y4 V y7 U mW Z⟩
       ·
        rw [kS hb]
        refine wR 1 [] 21 23 [] [(21, (.bool true))] trivial rfl fun _ => ?_
        refine be 0 (v := true) rfl rfl rfl rfl ?_
        refine ae ?_
        refine wm (.pointer (some ⟨b, 0, none⟩)) rfl rfl rfl ?_
        refine aF (ax rfl rfl rfl) rfl rfl (jU ex (2) (2) (0) (HS.callOwn a1 (i := 0) rfl)) ?_
        rintro _ qJ ⟨f2, rfl⟩
        replace f2 := HS.backOwn a1 (i := 0) rfl rfl (fun _ hb => hb) f2
        have f2 : HS _ _ _ [[(b, .cells [(.slice la P.length lk), (.slice ca hd.length ck), (.slice pa (ps ++ [bt]).length pk), (iI s.fuel), (.bool true), (iI 2), (iI 2), (.slice oa s.out.length ok), (iI 0)] none false)], pc, hw, pp, pl, [(bt.b, .cells [(iI s.top.code.params), (iI s.top.code.regs), (.slice ba s.top.code.blocks.length bk), (.slice ra s.top.regs.length rk), (.slice aa s.top.args.length ak), (iI s.top.blk), (iI (s.top.at_ + 1)), (iI s.top.to_)] none false)], pg, po, I, A, hu, g7] _ := f2
        refine ao 1 rfl ?_
        obtain ⟨mC, hz, li⟩ := SF.shut0 k7 fR f2 (q := 2) (m := 11) (by decide) rfl rfl bl
        have hz : HS _ _ _ [_, _, mC, _, _, _, _, _, _, _, _, []] _ := hz
        have qg := FAM.len li
        exact au ⟨.inl rfl, _, rfl, rfl, RunP.mk (bt := bt) (L := [I, A, hu, []]) (by unfold bC; dsimp only [f5, gf, cC]; (repeat (first | rw [if_pos (by omega)] | rw [if_neg (by omega)] | rw [if_pos hlow] | rw [if_neg hlow] | (unfold cM; dsimp only [goT, aE]) | (unfold fF; dsimp only [aE]) | (unfold gg; dsimp only [cQ, aE]) | (unfold eS; dsimp only [cQ, aE]) | (unfold cH; dsimp only [aE]))); first | done | rfl | rw [hmap]) hz fR T li y3 y4 V (by omega) U x2 Z⟩
      rintro _ qK ⟨rfl, ik⟩
      refine ao 1 rfl ?_
      exact au ⟨.inl rfl, _, rfl, rfl, ik⟩
     ·
      have hV := es
      try simp only [BS] at hV
      refine wR 1 [] 145 147 [] [(145, (.bool (((s.top.code.blocks.getD s.top.blk.toNat default).ins.getD s.top.at_.toNat default).i.op == 35)))] trivial rfl fun _ => ?_
      refine am 0 0 (v := (((s.top.code.blocks.getD s.top.blk.toNat default).ins.getD s.top.at_.toNat default).i.op == 35)) rfl rfl rfl rfl (fun hW => ?_) (fun hW => ?_)
      ·
       try simp only [BS] at hW
       refine ae ?_
       let mv : Value := (.agg ⟨[(iI ((s.top.code.blocks.getD s.top.blk.toNat default).ins.getD s.top.at_.toNat default).i.op), (iI ((s.top.code.blocks.getD s.top.blk.toNat default).ins.getD s.top.at_.toNat default).i.a), (iI ((s.top.code.blocks.getD s.top.blk.toNat default).ins.getD s.top.at_.toNat default).i.b), (iI ((s.top.code.blocks.getD s.top.blk.toNat default).ins.getD s.top.at_.toNat default).i.c), (iI ((s.top.code.blocks.getD s.top.blk.toNat default).ins.getD s.top.at_.toNat default).i.n)]⟩)
       refine wRo 4 0 [(3, .o mv)] 148 151 [] [(148, (.pointer (some ⟨b, 0, none⟩))), (149, (.pointer (some ⟨bt.b, 0, none⟩))), (151, mv)] (vA (qn 45 0 5 (HS.hc O (i := 9) rfl) rfl rfl rfl rfl) trivial) rfl fun _ => ?_
       refine aF (R := fun v H' => v = .tuple #[] ∧ RunP (.of H (b :: q.map Prod.fst)) F R P la lk b (bC P s) H') (ax rfl rfl rfl) rfl rfl ?_ ?_
       ·
        refine aL Tryd.func88 rfl rfl ?_
        refine aw 1 rfl ?_
        refine ae ?_
        refine bd (cz O rfl rfl) rfl rfl ?_
        rintro _ hR _ ⟨oK, rfl, ds, _⟩
        let hQ : Fp := [(oK, .cells [(iI ((s.top.code.blocks.getD s.top.blk.toNat default).ins.getD s.top.at_.toNat default).i.op), (iI ((s.top.code.blocks.getD s.top.blk.toNat default).ins.getD s.top.at_.toNat default).i.a), (iI ((s.top.code.blocks.getD s.top.blk.toNat default).ins.getD s.top.at_.toNat default).i.b), (iI ((s.top.code.blocks.getD s.top.blk.toNat default).ins.getD s.top.at_.toNat default).i.c), (iI ((s.top.code.blocks.getD s.top.blk.toNat default).ins.getD s.top.at_.toNat default).i.n)] none false)]
        have ds : HS _ _ _ [_, _, _, _, _, _, _, _, _, _, hQ] _ := ds
        refine ao 2 rfl ?_
        obtain ⟨k6, hv, a6, et, k8⟩ := SF.open y2 ds (q := 2) (i := ((s.top.code.blocks.getD s.top.blk.toNat default).ins.getD s.top.at_.toNat default).i.n.toNat) rfl (by omega)
        have a6 : HS _ _ _ [_, _, k6, _, _, _, _, _, _, _, _, hv] _ := a6
        have et : OS F (.slice (hd.getD ((s.top.code.blocks.getD s.top.blk.toNat default).ins.getD s.top.at_.toNat default).i.n.toNat default).a (hd.getD ((s.top.code.blocks.getD s.top.blk.toNat default).ins.getD s.top.at_.toNat default).i.n.toNat default).n (hd.getD ((s.top.code.blocks.getD s.top.blk.toNat default).ins.getD s.top.at_.toNat default).i.n.toNat default).k) (s.cells.getD ((s.top.code.blocks.getD s.top.blk.toNat default).ins.getD s.top.at_.toNat default).i.n.toNat default) hv := et
        have qx := OS.nlen et
        refine wRD 3 [(2, .o (iI ((s.top.code.blocks.getD s.top.blk.toNat default).ins.getD s.top.at_.toNat default).i.n)), (5, .o (iI ((s.top.code.blocks.getD s.top.blk.toNat default).ins.getD s.top.at_.toNat default).i.b)), (6, .o (iI (bw s.top.regs ((s.top.code.blocks.getD s.top.blk.toNat default).ins.getD s.top.at_.toNat default).i.b))), (7, .o (.pointer (cellA (hd.getD ((s.top.code.blocks.getD s.top.blk.toNat default).ins.getD s.top.at_.toNat default).i.n.toNat default) (bw s.top.regs ((s.top.code.blocks.getD s.top.blk.toNat default).ins.getD s.top.at_.toNat default).i.b))))] 7 14 [6] [(6, (.pointer (cellA (hd.getD ((s.top.code.blocks.getD s.top.blk.toNat default).ins.getD s.top.at_.toNat default).i.n.toNat default) (bw s.top.regs ((s.top.code.blocks.getD s.top.blk.toNat default).ins.getD s.top.at_.toNat default).i.b))))] (vA (ql 2 4 (hc0 (HS.hc ds (i := 10) rfl)) rfl rfl) (vA (ql 3 2 (hc0 (HS.hc ds (i := 10) rfl)) rfl rfl) (vA (ic.fc ex s.top.regs ((s.top.code.blocks.getD s.top.blk.toNat default).ins.getD s.top.at_.toNat default).i.b { hR with log := [] } (hc0 (HS.hc ds (i := 5) rfl)) (sv0 (OS.sv x2 ds (i := 6) rfl)) (by first | omega | exact hgr _ | exact aK wf.rows _ | (dsimp only; omega)) (by first | omega | exact hgr _ | exact aK wf.rows _ | (dsimp only; omega))) (vA (ic.cell_c_q ex hd (s.cells.getD ((s.top.code.blocks.getD s.top.blk.toNat default).ins.getD s.top.at_.toNat default).i.n.toNat default) ((s.top.code.blocks.getD s.top.blk.toNat default).ins.getD s.top.at_.toNat default).i.n (bw s.top.regs ((s.top.code.blocks.getD s.top.blk.toNat default).ins.getD s.top.at_.toNat default).i.b) { hR with log := [] } (hc0 (HS.hc a6 (i := 0) rfl)) (sv0 (OS.sv T a6 (i := 1) rfl)) (sv0 (OS.sv et a6 (i := 11) rfl)) (by first | omega | exact hgr _ | exact aK wf.rows _ | (dsimp only; omega)) (by first | omega | exact hgr _ | exact aK wf.rows _ | (dsimp only; omega))) trivial)))) rfl rfl fun _ => ?_
        by_cases hb : 0 ≤ bw s.top.regs ((s.top.code.blocks.getD s.top.blk.toNat default).ins.getD s.top.at_.toNat default).i.b ∧ bw s.top.regs ((s.top.code.blocks.getD s.top.blk.toNat default).ins.getD s.top.at_.toNat default).i.b < ((hd.getD ((s.top.code.blocks.getD s.top.blk.toNat default).ins.getD s.top.at_.toNat default).i.n.toNat default).n : Int)
        ·
         rw [cell_in hb]
         refine wR 1 [] 21 23 [] [(21, (.bool false))] trivial rfl fun _ => ?_
         refine wk_iff 1 (v := false) rfl rfl rfl rfl ?_
         refine wR 1 [(1, .o (iI ((s.top.code.blocks.getD s.top.blk.toNat default).ins.getD s.top.at_.toNat default).i.op))] 26 29 [] [(26, (.bool (((s.top.code.blocks.getD s.top.blk.toNat default).ins.getD s.top.at_.toNat default).i.op == 34)))] (vA (ql 3 0 (HS.hc a6 (i := 10) rfl) rfl rfl) trivial) rfl fun _ => ?_
         refine wk_iff 0 (v := (((s.top.code.blocks.getD s.top.blk.toNat default).ins.getD s.top.at_.toNat default).i.op == 34)) rfl es rfl rfl ?_
         refine ae ?_
         refine wRo 6 0 [(3, .o (iI ((s.top.code.blocks.getD s.top.blk.toNat default).ins.getD s.top.at_.toNat default).i.a)), (4, .o (iI (bw s.top.regs ((s.top.code.blocks.getD s.top.blk.toNat default).ins.getD s.top.at_.toNat default).i.a)))] 15 20 [] [(19, (iI (bw s.top.regs ((s.top.code.blocks.getD s.top.blk.toNat default).ins.getD s.top.at_.toNat default).i.a))), (20, (.pointer (some ⟨sB (.slice (hd.getD ((s.top.code.blocks.getD s.top.blk.toNat default).ins.getD s.top.at_.toNat default).i.n.toNat default).a (hd.getD ((s.top.code.blocks.getD s.top.blk.toNat default).ins.getD s.top.at_.toNat default).i.n.toNat default).n (hd.getD ((s.top.code.blocks.getD s.top.blk.toNat default).ins.getD s.top.at_.toNat default).i.n.toNat default).k), sO (.slice (hd.getD ((s.top.code.blocks.getD s.top.blk.toNat default).ins.getD s.top.at_.toNat default).i.n.toNat default).a (hd.getD ((s.top.code.blocks.getD s.top.blk.toNat default).ins.getD s.top.at_.toNat default).i.n.toNat default).n (hd.getD ((s.top.code.blocks.getD s.top.blk.toNat default).ins.getD s.top.at_.toNat default).i.n.toNat default).k) + (bw s.top.regs ((s.top.code.blocks.getD s.top.blk.toNat default).ins.getD s.top.at_.toNat default).i.b).toNat * Rp.sz Int, none⟩)))] (vA (ql 3 1 (HS.hc a6 (i := 10) rfl) rfl rfl) (vA (ic.fc ex s.top.regs ((s.top.code.blocks.getD s.top.blk.toNat default).ins.getD s.top.at_.toNat default).i.a hR (HS.hc a6 (i := 5) rfl) (OS.sv x2 a6 (i := 6) rfl) (by omega) (by omega)) trivial)) rfl fun _ => ?_
         refine aP (gp (α := Int) (j := (bw s.top.regs ((s.top.code.blocks.getD s.top.blk.toNat default).ins.getD s.top.at_.toNat default).i.b).toNat) (off := 0) (q := 11) (bw s.top.regs ((s.top.code.blocks.getD s.top.blk.toNat default).ins.getD s.top.at_.toNat default).i.a) et a6 rfl rfl rfl rfl rfl rfl rfl rfl (aW (x := (0 : Int)) (by first | omega | exact hgr _)) rfl (by rintro cs ⟨rfl, _⟩; exact ⟨Nat.le_of_ble_eq_true rfl, rfl, by first | omega | exact hgr _⟩)) rfl ?_
         rintro _ qL pi ⟨lq, hA, _⟩
         have hA : HS _ _ _ [_, _, _, _, _, _, _, _, _, _, _, pi] _ := hA
         have pK := OS.len' lq
         refine ao 1 rfl ?_
         obtain ⟨mD, hB, lm⟩ := SF.shut k8 fR hA (q := 2) (m := 11) (by decide) rfl rfl lq
         have hB : HS _ _ _ [_, _, mD, _, _, _, _, _, _, _, _, []] _ := hB
         have qh := FAM.len lm
         exact au ⟨.inl rfl, _, rfl, rfl, RunP.mk (bt := bt) (L := [I, A, hQ, []]) (by unfold bC; dsimp only [f5, gf, cC]; (repeat (first | rw [if_pos (by omega)] | rw [if_neg (by omega)] | rw [if_pos hlow] | rw [if_neg hlow] | (unfold cM; dsimp only [goT, aE]) | (unfold fF; dsimp only [aE]) | (unfold gg; dsimp only [cQ, aE]) | (unfold eS; dsimp only [cQ, aE]) | (unfold cH; dsimp only [aE]))); first | done | rfl | rw [hmap]) hB fR T lm y3 y4 V y7 U x2 Z⟩
        ·
         rw [kS hb]
         refine wR 1 [] 21 23 [] [(21, (.bool true))] trivial rfl fun _ => ?_
         refine be 0 (v := true) rfl rfl rfl rfl ?_
         refine ae ?_
         refine wm (.pointer (some ⟨b, 0, none⟩)) rfl rfl rfl ?_
         refine aF (ax rfl rfl rfl) rfl rfl (jU ex (2) (2) (0) (HS.callOwn a6 (i := 0) rfl)) ?_
         rintro _ qM ⟨f6, rfl⟩
         replace f6 := HS.backOwn a6 (i := 0) rfl rfl (fun _ hb => hb) f6
         have f6 : HS _ _ _ [[(b, .cells [(.slice la P.length lk), (.slice ca hd.length ck), (.slice pa (ps ++ [bt]).length pk), (iI s.fuel), (.bool true), (iI 2), (iI 2), (.slice oa s.out.length ok), (iI 0)] none false)], pc, k6, pp, pl, [(bt.b, .cells [(iI s.top.code.params), (iI s.top.code.regs), (.slice ba s.top.code.blocks.length bk), (.slice ra s.top.regs.length rk), (.slice aa s.top.args.length ak), (iI s.top.blk), (iI (s.top.at_ + 1)), (iI s.top.to_)] none false)], pg, po, I, A, hQ, hv] _ := f6
         refine ao 1 rfl ?_
         obtain ⟨mE, hD, ln⟩ := SF.shut0 k8 fR f6 (q := 2) (m := 11) (by decide) rfl rfl et
         have hD : HS _ _ _ [_, _, mE, _, _, _, _, _, _, _, _, []] _ := hD
         have qi := FAM.len ln
         exact au ⟨.inl rfl, _, rfl, rfl, RunP.mk (bt := bt) (L := [I, A, hQ, []]) (by unfold bC; dsimp only [f5, gf, cC]; (repeat (first | rw [if_pos (by omega)] | rw [if_neg (by omega)] | rw [if_pos hlow] | rw [if_neg hlow] | (unfold cM; dsimp only [goT, aE]) | (unfold fF; dsimp only [aE]) | (unfold gg; dsimp only [cQ, aE]) | (unfold eS; dsimp only [cQ, aE]) | (unfold cH; dsimp only [aE]))); first | done | rfl | rw [hmap]) hD fR T ln y3 y4 V (by omega) U x2 Z⟩
       rintro _ qN ⟨rfl, iv⟩
       refine ao 1 rfl ?_
       exact au ⟨.inl rfl, _, rfl, rfl, iv⟩
      ·
       try simp only [BS] at hW
       refine ae ?_
       let mw : Value := (.agg ⟨[(iI ((s.top.code.blocks.getD s.top.blk.toNat default).ins.getD s.top.at_.toNat default).i.op), (iI ((s.top.code.blocks.getD s.top.blk.toNat default).ins.getD s.top.at_.toNat default).i.a), (iI ((s.top.code.blocks.getD s.top.blk.toNat default).ins.getD s.top.at_.toNat default).i.b), (iI ((s.top.code.blocks.getD s.top.blk.toNat default).ins.getD s.top.at_.toNat default).i.c), (iI ((s.top.code.blocks.getD s.top.blk.toNat default).ins.getD s.top.at_.toNat default).i.n)]⟩)
       refine wRo 4 0 [(3, .o mw)] 60 63 [] [(60, (.pointer (some ⟨b, 0, none⟩))), (61, (.pointer (some ⟨bt.b, 0, none⟩))), (63, mw)] (vA (qn 45 0 5 (HS.hc O (i := 9) rfl) rfl rfl rfl rfl) trivial) rfl fun _ => ?_
       refine aF (R := fun v H' => v = .tuple #[] ∧ RunP (.of H (b :: q.map Prod.fst)) F R P la lk b (bC P s) H') (ax rfl rfl rfl) rfl rfl ?_ ?_
       ·
        refine aL Tryd.func89 rfl rfl ?_
        refine aw 1 rfl ?_
        refine ae ?_
        refine bd (cz O rfl rfl) rfl rfl ?_
        rintro _ c7 _ ⟨E, rfl, z, _⟩
        let av : Fp := [(E, .cells [(iI ((s.top.code.blocks.getD s.top.blk.toNat default).ins.getD s.top.at_.toNat default).i.op), (iI ((s.top.code.blocks.getD s.top.blk.toNat default).ins.getD s.top.at_.toNat default).i.a), (iI ((s.top.code.blocks.getD s.top.blk.toNat default).ins.getD s.top.at_.toNat default).i.b), (iI ((s.top.code.blocks.getD s.top.blk.toNat default).ins.getD s.top.at_.toNat default).i.c), (iI ((s.top.code.blocks.getD s.top.blk.toNat default).ins.getD s.top.at_.toNat default).i.n)] none false)]
        have z : HS _ _ _ [_, _, _, _, _, _, _, _, _, _, av] _ := z
        refine ao 2 rfl ?_
        refine wR 3 [(1, .o (iI ((s.top.code.blocks.getD s.top.blk.toNat default).ins.getD s.top.at_.toNat default).i.op))] 7 8 [] [(8, (iI ((s.top.code.blocks.getD s.top.blk.toNat default).ins.getD s.top.at_.toNat default).i.op))] (vA (ql 3 0 (HS.hc z (i := 10) rfl) rfl rfl) trivial) rfl fun _ => ?_
        refine wR 1 [] 41 42 [] [(41, (.bool (((s.top.code.blocks.getD s.top.blk.toNat default).ins.getD s.top.at_.toNat default).i.op == 10)))] trivial rfl fun _ => ?_
        refine am 0 1 (v := (((s.top.code.blocks.getD s.top.blk.toNat default).ins.getD s.top.at_.toNat default).i.op == 10)) rfl rfl rfl rfl (fun hX => ?_) (fun hX => ?_)
        ·
         try simp only [BS] at hX
         refine aI rfl ?_
         refine fm (.pointer (some ⟨bt.b, 0, none⟩)) rfl rfl rfl ?_
         refine ab (v := (.pointer (some ⟨E, 1, none⟩))) (id := .v) (aU rfl rfl) rfl rfl (az rfl) (ay _) ?_
         refine ab (v := (iI ((s.top.code.blocks.getD s.top.blk.toNat default).ins.getD s.top.at_.toNat default).i.a)) (id := .l E) (aD (i := 1) rfl rfl (HS.hc z.log0 (i := 10) rfl) rfl rfl) rfl rfl (aO rfl) (⟨.inl rfl, ⟨.inr trivial, trivial⟩⟩) ?_
         refine fm (.pointer (some ⟨bt.b, 0, none⟩)) rfl rfl rfl ?_
         refine ab (v := (.pointer (some ⟨E, 2, none⟩))) (id := .v) (aU rfl rfl) rfl rfl (az rfl) (ay _) ?_
         refine ab (v := (iI ((s.top.code.blocks.getD s.top.blk.toNat default).ins.getD s.top.at_.toNat default).i.b)) (id := .l E) (aD (i := 2) rfl rfl (HS.hc z.log0 (i := 10) rfl) rfl rfl) rfl rfl (aO rfl) (⟨.inl rfl, ⟨.inr trivial, ⟨.inr trivial, ⟨.inr trivial, ⟨.inr trivial, trivial⟩⟩⟩⟩⟩) ?_
         refine bm (W := []) (ax rfl rfl rfl) rfl rfl rfl (ic.jN ex s.top.regs ((s.top.code.blocks.getD s.top.blk.toNat default).ins.getD s.top.at_.toNat default).i.b _ (HS.hc z.log0 (i := 5) rfl) (OS.sv x2 z.log0 (i := 6) rfl) (by omega) (by omega)) (⟨.inl rfl, ⟨.inl rfl, ⟨.inl rfl, ⟨.inr List.not_mem_nil, ⟨.inr trivial, ⟨.inr trivial, trivial⟩⟩⟩⟩⟩⟩) ?_
         rintro _ _ ⟨rt, rfl, rfl, rfl⟩
         refine ⟨fun b hb => absurd hb List.not_mem_nil, fun nr lW => ?_⟩
         have g9 := HS.lg z.log0 z lW
         generalize ({ { c7 with log := [] } with log := nr } : Heap) = pY at g9 ⊢
         refine bm (W := (bt.b :: pg.map Prod.fst)) (ax rfl rfl rfl) rfl rfl rfl (i9 ex s.top.regs ((s.top.code.blocks.getD s.top.blk.toNat default).ins.getD s.top.at_.toNat default).i.a (bw s.top.regs ((s.top.code.blocks.getD s.top.blk.toNat default).ins.getD s.top.at_.toNat default).i.b) (HS.call2 g9.log0 (i := 5) (j := 6) (by decide) rfl rfl) x2 (by first | omega | exact hgr _) (by first | omega | exact hgr _) (by first | omega | exact hgr _)) (⟨.inl rfl, ⟨.inl rfl, ⟨.inl rfl, ⟨.inl rfl, ⟨.inl rfl, ⟨.inl rfl, ⟨.inl rfl, trivial⟩⟩⟩⟩⟩⟩⟩) ?_
         rintro _ oC ⟨nU, oh, n5, nK, qA, ch, b1, rfl, mX⟩
         refine ⟨HS.didW b1, fun ns lX => ?_⟩
         replace b1 := HS.back2 g9.log0 (i := 5) (j := 6) (by decide) rfl rfl rfl (fun _ hb => hb) b1
         replace b1 := HS.lg b1 g9 lX
         generalize ({ oC with log := ns } : Heap) = pZ at b1 ⊢
         have b1 : HS _ _ _ [ea, pc, pr, pp, pl, [(bt.b, .cells [(iI s.top.code.params), (iI s.top.code.regs), (.slice ba s.top.code.blocks.length bk), (.slice nU oh n5), (.slice aa s.top.args.length ak), (iI s.top.blk), (iI (s.top.at_ + 1)), (iI s.top.to_)] none false)], nK, po, I, A, av] _ := b1
         replace U := U.mono ch
         replace Z := Z.mono ch
         replace T := T.mono ch
         replace y3 := y3.mono ch
         replace V := V.mono ch
         replace y2 := SF.mono ch y2
         replace y4 := FAM.mono (fun k => CR.mono ch k) y4
         refine bz ?_
         refine aw 1 rfl ?_
         exact au ⟨.inl rfl, _, rfl, rfl, RunP.mk (bt := bt) (L := [I, A, av]) (by unfold bC; dsimp only [f5, gf, cC]; (repeat (first | rw [if_pos (by omega)] | rw [if_neg (by omega)] | rw [if_pos hlow] | rw [if_neg hlow] | (unfold cM; dsimp only [goT, aE]) | (unfold fF; dsimp only [aE]) | (unfold gg; dsimp only [cQ, aE]) | (unfold eS; dsimp only [cQ, aE]) | (unfold cH; dsimp only [aE]))); first | done | rfl | rw [hmap]) b1 (ch) T y2 y3 y4 V y7 U mX Z⟩
        ·
         try simp only [BS] at hX
         refine wR 1 [] 51 52 [] [(51, (.bool (((s.top.code.blocks.getD s.top.blk.toNat default).ins.getD s.top.at_.toNat default).i.op == 11)))] trivial rfl fun _ => ?_
         refine am 1 1 (v := (((s.top.code.blocks.getD s.top.blk.toNat default).ins.getD s.top.at_.toNat default).i.op == 11)) rfl rfl rfl rfl (fun hY => ?_) (fun hY => ?_)
         ·
          try simp only [BS] at hY
          refine wR 1 [(2, .o (iI ((s.top.code.blocks.getD s.top.blk.toNat default).ins.getD s.top.at_.toNat default).i.c)), (3, .o (iI (bw s.top.regs ((s.top.code.blocks.getD s.top.blk.toNat default).ins.getD s.top.at_.toNat default).i.c)))] 53 57 [] [(57, (.bool (bw s.top.regs ((s.top.code.blocks.getD s.top.blk.toNat default).ins.getD s.top.at_.toNat default).i.c == 0)))] (vA (ql 3 3 (HS.hc z (i := 10) rfl) rfl rfl) (vA (ic.fc ex s.top.regs ((s.top.code.blocks.getD s.top.blk.toNat default).ins.getD s.top.at_.toNat default).i.c c7 (HS.hc z (i := 5) rfl) (OS.sv x2 z (i := 6) rfl) (by omega) (by omega)) trivial)) rfl fun _ => ?_
          refine am 0 1 (v := (bw s.top.regs ((s.top.code.blocks.getD s.top.blk.toNat default).ins.getD s.top.at_.toNat default).i.c == 0)) rfl rfl rfl rfl (fun h1 => ?_) (fun h1 => ?_)
          ·
           try simp only [BS] at h1
           refine aI rfl ?_
           refine fm (.pointer (some ⟨bt.b, 0, none⟩)) rfl rfl rfl ?_
           refine ab (v := (.pointer (some ⟨E, 1, none⟩))) (id := .v) (aU rfl rfl) rfl rfl (az rfl) (ay _) ?_
           refine ab (v := (iI ((s.top.code.blocks.getD s.top.blk.toNat default).ins.getD s.top.at_.toNat default).i.a)) (id := .l E) (aD (i := 1) rfl rfl (HS.hc z.log0 (i := 10) rfl) rfl rfl) rfl rfl (aO rfl) (⟨.inl rfl, ⟨.inr trivial, trivial⟩⟩) ?_
           refine fm (.pointer (some ⟨bt.b, 0, none⟩)) rfl rfl rfl ?_
           refine ab (v := (.pointer (some ⟨E, 2, none⟩))) (id := .v) (aU rfl rfl) rfl rfl (az rfl) (ay _) ?_
           refine ab (v := (iI ((s.top.code.blocks.getD s.top.blk.toNat default).ins.getD s.top.at_.toNat default).i.b)) (id := .l E) (aD (i := 2) rfl rfl (HS.hc z.log0 (i := 10) rfl) rfl rfl) rfl rfl (aO rfl) (⟨.inl rfl, ⟨.inr trivial, ⟨.inr trivial, ⟨.inr trivial, ⟨.inr trivial, trivial⟩⟩⟩⟩⟩) ?_
           refine bm (W := []) (ax rfl rfl rfl) rfl rfl rfl (ic.jN ex s.top.regs ((s.top.code.blocks.getD s.top.blk.toNat default).ins.getD s.top.at_.toNat default).i.b _ (HS.hc z.log0 (i := 5) rfl) (OS.sv x2 z.log0 (i := 6) rfl) (by omega) (by omega)) (⟨.inl rfl, ⟨.inl rfl, ⟨.inl rfl, ⟨.inr List.not_mem_nil, ⟨.inr trivial, ⟨.inr trivial, trivial⟩⟩⟩⟩⟩⟩) ?_
           rintro _ _ ⟨rv, rfl, rfl, rfl⟩
           refine ⟨fun b hb => absurd hb List.not_mem_nil, fun nt lY => ?_⟩
           have ha := HS.lg z.log0 z lY
           generalize ({ { c7 with log := [] } with log := nt } : Heap) = p0 at ha ⊢
           refine bm (W := (bt.b :: pg.map Prod.fst)) (ax rfl rfl rfl) rfl rfl rfl (i9 ex s.top.regs ((s.top.code.blocks.getD s.top.blk.toNat default).ins.getD s.top.at_.toNat default).i.a (bw s.top.regs ((s.top.code.blocks.getD s.top.blk.toNat default).ins.getD s.top.at_.toNat default).i.b) (HS.call2 ha.log0 (i := 5) (j := 6) (by decide) rfl rfl) x2 (by first | omega | exact hgr _) (by first | omega | exact hgr _) (by first | omega | exact hgr _)) (⟨.inl rfl, ⟨.inl rfl, ⟨.inl rfl, ⟨.inl rfl, ⟨.inl rfl, ⟨.inl rfl, ⟨.inl rfl, trivial⟩⟩⟩⟩⟩⟩⟩) ?_
           rintro _ oD ⟨nV, oi, n6, nL, qB, ci, b2, rfl, mY⟩
           refine ⟨HS.didW b2, fun nu lZ => ?_⟩
           replace b2 := HS.back2 ha.log0 (i := 5) (j := 6) (by decide) rfl rfl rfl (fun _ hb => hb) b2
           replace b2 := HS.lg b2 ha lZ
           generalize ({ oD with log := nu } : Heap) = p1 at b2 ⊢
           have b2 : HS _ _ _ [ea, pc, pr, pp, pl, [(bt.b, .cells [(iI s.top.code.params), (iI s.top.code.regs), (.slice ba s.top.code.blocks.length bk), (.slice nV oi n6), (.slice aa s.top.args.length ak), (iI s.top.blk), (iI (s.top.at_ + 1)), (iI s.top.to_)] none false)], nL, po, I, A, av] _ := b2
           replace U := U.mono ci
           replace Z := Z.mono ci
           replace T := T.mono ci
           replace y3 := y3.mono ci
           replace V := V.mono ci
           replace y2 := SF.mono ci y2
           replace y4 := FAM.mono (fun k => CR.mono ci k) y4
           refine bz ?_
           refine aw 1 rfl ?_
           exact au ⟨.inl rfl, _, rfl, rfl, RunP.mk (bt := bt) (L := [I, A, av]) (by unfold bC; dsimp only [f5, gf, cC]; (repeat (first | rw [if_pos (by omega)] | rw [if_neg (by omega)] | rw [if_pos hlow] | rw [if_neg hlow] | (unfold cM; dsimp only [goT, aE]) | (unfold fF; dsimp only [aE]) | (unfold gg; dsimp only [cQ, aE]) | (unfold eS; dsimp only [cQ, aE]) | (unfold cH; dsimp only [aE]))); first | done | rfl | rw [hmap]) b2 (ci) T y2 y3 y4 V y7 U mY Z⟩
          ·
           try simp only [BS] at h1
           exact au ⟨.inl rfl, _, rfl, rfl, RunP.mk (bt := bt) (L := [I, A, av]) (by unfold bC; dsimp only [f5, gf, cC]; (repeat (first | rw [if_pos (by omega)] | rw [if_neg (by omega)] | rw [if_pos hlow] | rw [if_neg hlow] | (unfold cM; dsimp only [goT, aE]) | (unfold fF; dsimp only [aE]) | (unfold gg; dsimp only [cQ, aE]) | (unfold eS; dsimp only [cQ, aE]) | (unfold cH; dsimp only [aE]))); first | done | rfl | rw [hmap]) z fR T y2 y3 y4 V y7 U x2 Z⟩
         ·
          try simp only [BS] at hY
          refine wR 1 [] 66 67 [] [(66, (.bool (((s.top.code.blocks.getD s.top.blk.toNat default).ins.getD s.top.at_.toNat default).i.op == 12)))] trivial rfl fun _ => ?_
          refine am 1 1 (v := (((s.top.code.blocks.getD s.top.blk.toNat default).ins.getD s.top.at_.toNat default).i.op == 12)) rfl rfl rfl rfl (fun h2 => ?_) (fun h2 => ?_)
          ·
           try simp only [BS] at h2
           refine wR 1 [(2, .o (iI ((s.top.code.blocks.getD s.top.blk.toNat default).ins.getD s.top.at_.toNat default).i.c)), (3, .o (iI (bw s.top.regs ((s.top.code.blocks.getD s.top.blk.toNat default).ins.getD s.top.at_.toNat default).i.c)))] 68 72 [] [(72, (.bool (bw s.top.regs ((s.top.code.blocks.getD s.top.blk.toNat default).ins.getD s.top.at_.toNat default).i.c != 0)))] (vA (ql 3 3 (HS.hc z (i := 10) rfl) rfl rfl) (vA (ic.fc ex s.top.regs ((s.top.code.blocks.getD s.top.blk.toNat default).ins.getD s.top.at_.toNat default).i.c c7 (HS.hc z (i := 5) rfl) (OS.sv x2 z (i := 6) rfl) (by omega) (by omega)) trivial)) rfl fun _ => ?_
           refine am 0 1 (v := (bw s.top.regs ((s.top.code.blocks.getD s.top.blk.toNat default).ins.getD s.top.at_.toNat default).i.c != 0)) rfl rfl rfl rfl (fun h3 => ?_) (fun h3 => ?_)
           ·
            try simp only [BS] at h3
            refine aI rfl ?_
            refine fm (.pointer (some ⟨bt.b, 0, none⟩)) rfl rfl rfl ?_
            refine ab (v := (.pointer (some ⟨E, 1, none⟩))) (id := .v) (aU rfl rfl) rfl rfl (az rfl) (ay _) ?_
            refine ab (v := (iI ((s.top.code.blocks.getD s.top.blk.toNat default).ins.getD s.top.at_.toNat default).i.a)) (id := .l E) (aD (i := 1) rfl rfl (HS.hc z.log0 (i := 10) rfl) rfl rfl) rfl rfl (aO rfl) (⟨.inl rfl, ⟨.inr trivial, trivial⟩⟩) ?_
            refine fm (.pointer (some ⟨bt.b, 0, none⟩)) rfl rfl rfl ?_
            refine ab (v := (.pointer (some ⟨E, 2, none⟩))) (id := .v) (aU rfl rfl) rfl rfl (az rfl) (ay _) ?_
            refine ab (v := (iI ((s.top.code.blocks.getD s.top.blk.toNat default).ins.getD s.top.at_.toNat default).i.b)) (id := .l E) (aD (i := 2) rfl rfl (HS.hc z.log0 (i := 10) rfl) rfl rfl) rfl rfl (aO rfl) (⟨.inl rfl, ⟨.inr trivial, ⟨.inr trivial, ⟨.inr trivial, ⟨.inr trivial, trivial⟩⟩⟩⟩⟩) ?_
            refine bm (W := []) (ax rfl rfl rfl) rfl rfl rfl (ic.jN ex s.top.regs ((s.top.code.blocks.getD s.top.blk.toNat default).ins.getD s.top.at_.toNat default).i.b _ (HS.hc z.log0 (i := 5) rfl) (OS.sv x2 z.log0 (i := 6) rfl) (by omega) (by omega)) (⟨.inl rfl, ⟨.inl rfl, ⟨.inl rfl, ⟨.inr List.not_mem_nil, ⟨.inr trivial, ⟨.inr trivial, trivial⟩⟩⟩⟩⟩⟩) ?_
            rintro _ _ ⟨rx, rfl, rfl, rfl⟩
            refine ⟨fun b hb => absurd hb List.not_mem_nil, fun nv l0 => ?_⟩
            have he := HS.lg z.log0 z l0
            generalize ({ { c7 with log := [] } with log := nv } : Heap) = p2 at he ⊢
            refine bm (W := (bt.b :: pg.map Prod.fst)) (ax rfl rfl rfl) rfl rfl rfl (i9 ex s.top.regs ((s.top.code.blocks.getD s.top.blk.toNat default).ins.getD s.top.at_.toNat default).i.a (bw s.top.regs ((s.top.code.blocks.getD s.top.blk.toNat default).ins.getD s.top.at_.toNat default).i.b) (HS.call2 he.log0 (i := 5) (j := 6) (by decide) rfl rfl) x2 (by first | omega | exact hgr _) (by first | omega | exact hgr _) (by first | omega | exact hgr _)) (⟨.inl rfl, ⟨.inl rfl, ⟨.inl rfl, ⟨.inl rfl, ⟨.inl rfl, ⟨.inl rfl, ⟨.inl rfl, trivial⟩⟩⟩⟩⟩⟩⟩) ?_
            rintro _ oE ⟨nW, oj, n7, nM, qC, cl, b3, rfl, mZ⟩
            refine ⟨HS.didW b3, fun nw l1 => ?_⟩
            replace b3 := HS.back2 he.log0 (i := 5) (j := 6) (by decide) rfl rfl rfl (fun _ hb => hb) b3
            replace b3 := HS.lg b3 he l1
            generalize ({ oE with log := nw } : Heap) = p3 at b3 ⊢
            have b3 : HS _ _ _ [ea, pc, pr, pp, pl, [(bt.b, .cells [(iI s.top.code.params), (iI s.top.code.regs), (.slice ba s.top.code.blocks.length bk), (.slice nW oj n7), (.slice aa s.top.args.length ak), (iI s.top.blk), (iI (s.top.at_ + 1)), (iI s.top.to_)] none false)], nM, po, I, A, av] _ := b3
            replace U := U.mono cl
            replace Z := Z.mono cl
            replace T := T.mono cl
            replace y3 := y3.mono cl
            replace V := V.mono cl
            replace y2 := SF.mono cl y2
            replace y4 := FAM.mono (fun k => CR.mono cl k) y4
            refine bz ?_
            refine aw 1 rfl ?_
            exact au ⟨.inl rfl, _, rfl, rfl, RunP.mk (bt := bt) (L := [I, A, av]) (by unfold bC; dsimp only [f5, gf, cC]; (repeat (first | rw [if_pos (by omega)] | rw [if_neg (by omega)] | rw [if_pos hlow] | rw [if_neg hlow] | (unfold cM; dsimp only [goT, aE]) | (unfold fF; dsimp only [aE]) | (unfold gg; dsimp only [cQ, aE]) | (unfold eS; dsimp only [cQ, aE]) | (unfold cH; dsimp only [aE]))); first | done | rfl | rw [hmap]) b3 (cl) T y2 y3 y4 V y7 U mZ Z⟩
           ·
            try simp only [BS] at h3
            exact au ⟨.inl rfl, _, rfl, rfl, RunP.mk (bt := bt) (L := [I, A, av]) (by unfold bC; dsimp only [f5, gf, cC]; (repeat (first | rw [if_pos (by omega)] | rw [if_neg (by omega)] | rw [if_pos hlow] | rw [if_neg hlow] | (unfold cM; dsimp only [goT, aE]) | (unfold fF; dsimp only [aE]) | (unfold gg; dsimp only [cQ, aE]) | (unfold eS; dsimp only [cQ, aE]) | (unfold cH; dsimp only [aE]))); first | done | rfl | rw [hmap]) z fR T y2 y3 y4 V y7 U x2 Z⟩
          ·
           try simp only [BS] at h2
           refine wR 1 [] 81 82 [] [(81, (.bool (((s.top.code.blocks.getD s.top.blk.toNat default).ins.getD s.top.at_.toNat default).i.op == 13)))] trivial rfl fun _ => ?_
           refine am 0 1 (v := (((s.top.code.blocks.getD s.top.blk.toNat default).ins.getD s.top.at_.toNat default).i.op == 13)) rfl rfl rfl rfl (fun h4 => ?_) (fun h4 => ?_)
           ·
            try simp only [BS] at h4
            refine ae ?_
            refine wRo 5 0 [(2, .o (iI ((s.top.code.blocks.getD s.top.blk.toNat default).ins.getD s.top.at_.toNat default).i.a)), (4, .o (iI ((s.top.code.blocks.getD s.top.blk.toNat default).ins.getD s.top.at_.toNat default).i.n))] 83 87 [] [(83, (.pointer (some ⟨bt.b, 0, none⟩))), (85, (iI ((s.top.code.blocks.getD s.top.blk.toNat default).ins.getD s.top.at_.toNat default).i.a)), (87, (iI ((s.top.code.blocks.getD s.top.blk.toNat default).ins.getD s.top.at_.toNat default).i.n))] (vA (ql 3 1 (HS.hc z (i := 10) rfl) rfl rfl) (vA (ql 2 4 (HS.hc z (i := 10) rfl) rfl rfl) trivial)) rfl fun _ => ?_
            refine aF (ax rfl rfl rfl) rfl rfl (i9 ex s.top.regs ((s.top.code.blocks.getD s.top.blk.toNat default).ins.getD s.top.at_.toNat default).i.a ((s.top.code.blocks.getD s.top.blk.toNat default).ins.getD s.top.at_.toNat default).i.n (HS.call2 z (i := 5) (j := 6) (by decide) rfl rfl) x2 (by omega) (by omega) (by omega)) ?_
            rintro _ qP ⟨nX, ol, n8, nN, qD, co, f7, rfl, m0⟩
            replace f7 := HS.back2 z (i := 5) (j := 6) (by decide) rfl rfl rfl (fun _ hb => hb) f7
            have f7 : HS _ _ _ [ea, pc, pr, pp, pl, [(bt.b, .cells [(iI s.top.code.params), (iI s.top.code.regs), (.slice ba s.top.code.blocks.length bk), (.slice nX ol n8), (.slice aa s.top.args.length ak), (iI s.top.blk), (iI (s.top.at_ + 1)), (iI s.top.to_)] none false)], nN, po, I, A, av] _ := f7
            replace U := U.mono co
            replace Z := Z.mono co
            replace T := T.mono co
            replace y3 := y3.mono co
            replace V := V.mono co
            replace y2 := SF.mono co y2
            replace y4 := FAM.mono (fun k => CR.mono co k) y4
            refine ao 1 rfl ?_
            exact au ⟨.inl rfl, _, rfl, rfl, RunP.mk (bt := bt) (L := [I, A, av]) (by unfold bC; dsimp only [f5, gf, cC]; (repeat (first | rw [if_pos (by omega)] | rw [if_neg (by omega)] | rw [if_pos hlow] | rw [if_neg hlow] | (unfold cM; dsimp only [goT, aE]) | (unfold fF; dsimp only [aE]) | (unfold gg; dsimp only [cQ, aE]) | (unfold eS; dsimp only [cQ, aE]) | (unfold cH; dsimp only [aE]))); first | done | rfl | rw [hmap]) f7 (co) T y2 y3 y4 V y7 U m0 Z⟩
           ·
            try simp only [BS] at h4
            refine wR 1 [] 89 90 [] [(89, (.bool (((s.top.code.blocks.getD s.top.blk.toNat default).ins.getD s.top.at_.toNat default).i.op == 38)))] trivial rfl fun _ => ?_
            refine am 0 1 (v := (((s.top.code.blocks.getD s.top.blk.toNat default).ins.getD s.top.at_.toNat default).i.op == 38)) rfl rfl rfl rfl (fun h5 => ?_) (fun h5 => ?_)
            ·
             try simp only [BS] at h5
             refine aI rfl ?_
             refine fm (.pointer (some ⟨bt.b, 0, none⟩)) rfl rfl rfl ?_
             refine ab (v := (.pointer (some ⟨E, 1, none⟩))) (id := .v) (aU rfl rfl) rfl rfl (az rfl) (ay _) ?_
             refine ab (v := (iI ((s.top.code.blocks.getD s.top.blk.toNat default).ins.getD s.top.at_.toNat default).i.a)) (id := .l E) (aD (i := 1) rfl rfl (HS.hc z.log0 (i := 10) rfl) rfl rfl) rfl rfl (aO rfl) (⟨.inl rfl, ⟨.inr trivial, trivial⟩⟩) ?_
             refine fm (.pointer (some ⟨bt.b, 0, none⟩)) rfl rfl rfl ?_
             refine ab (v := (.pointer (some ⟨bt.b, 0, none⟩))) (id := .v) (bF rfl) rfl rfl (az rfl) (ay _) ?_
             refine ab (v := (.pointer (some ⟨bt.b, 4, none⟩))) (id := .v) (aU rfl rfl) rfl rfl (az rfl) (ay _) ?_
             refine ab (v := (.slice aa s.top.args.length ak)) (id := .l bt.b) (aD (i := 4) rfl rfl (HS.hc z.log0 (i := 5) rfl) rfl rfl) rfl rfl (aO rfl) (⟨.inl rfl, ⟨.inl rfl, ⟨.inl rfl, ⟨.inr trivial, ⟨.inr trivial, ⟨.inr trivial, trivial⟩⟩⟩⟩⟩⟩) ?_
             refine ab (v := (.pointer (some ⟨E, 4, none⟩))) (id := .v) (aU rfl rfl) rfl rfl (az rfl) (ay _) ?_
             refine ab (v := (iI ((s.top.code.blocks.getD s.top.blk.toNat default).ins.getD s.top.at_.toNat default).i.n)) (id := .l E) (aD (i := 4) rfl rfl (HS.hc z.log0 (i := 10) rfl) rfl rfl) rfl rfl (aO rfl) (⟨.inl rfl, ⟨.inr trivial, ⟨.inr trivial, ⟨.inr trivial, ⟨.inr trivial, ⟨.inr trivial, ⟨.inr trivial, ⟨.inr trivial, trivial⟩⟩⟩⟩⟩⟩⟩⟩) ?_
             refine ab (v := (.pointer (some ⟨sB (.slice aa s.top.args.length ak), sO (.slice aa s.top.args.length ak) + ((s.top.code.blocks.getD s.top.blk.toNat default).ins.getD s.top.at_.toNat default).i.n.toNat * Rp.sz Int, none⟩))) (id := .v) (bh (α := Int) (j := ((s.top.code.blocks.getD s.top.blk.toNat default).ins.getD s.top.at_.toNat default).i.n) rfl rfl rfl rfl (SR.sv Z z.log0) (by omega) (by omega)) rfl rfl (az rfl) (ay _) ?_
             obtain ⟨qe, m9, mG⟩ := Sv.at (SR.sv Z z.log0) (aW (x := (0 : Int)) (show ((s.top.code.blocks.getD s.top.blk.toNat default).ins.getD s.top.at_.toNat default).i.n.toNat < s.top.args.length from by first | omega | exact hgr _ | exact aK wf.rows _ | (dsimp only; omega)))
             obtain ⟨rfl, pI⟩ := m9
             refine ab (v := (iI (s.top.args.getD ((s.top.code.blocks.getD s.top.blk.toNat default).ins.getD s.top.at_.toNat default).i.n.toNat 0))) (id := .l (sB (.slice aa s.top.args.length ak))) (aD (i := 0) rfl rfl mG rfl rfl) rfl rfl (aO rfl) (⟨.inl rfl, ⟨.inl rfl, ⟨.inl rfl, ⟨.inl rfl, ⟨.inl rfl, ⟨.inl rfl, ⟨.inl rfl, ⟨.inr trivial, ⟨.inr trivial, ⟨.inr trivial, trivial⟩⟩⟩⟩⟩⟩⟩⟩⟩⟩) ?_
             refine bm (W := (bt.b :: pg.map Prod.fst)) (ax rfl rfl rfl) rfl rfl rfl (i9 ex s.top.regs ((s.top.code.blocks.getD s.top.blk.toNat default).ins.getD s.top.at_.toNat default).i.a (s.top.args.getD ((s.top.code.blocks.getD s.top.blk.toNat default).ins.getD s.top.at_.toNat default).i.n.toNat 0) (HS.call2 z.log0 (i := 5) (j := 6) (by decide) rfl rfl) x2 (by omega) (by omega) (by omega)) (⟨.inl rfl, ⟨.inl rfl, ⟨.inl rfl, ⟨.inl rfl, ⟨.inl rfl, ⟨.inl rfl, ⟨.inl rfl, ⟨.inl rfl, ⟨.inl rfl, ⟨.inl rfl, ⟨.inl rfl, trivial⟩⟩⟩⟩⟩⟩⟩⟩⟩⟩⟩) ?_
             rintro _ oF ⟨nY, om, n9, nO, qE, cv, b4, rfl, na⟩
             refine ⟨HS.didW b4, fun nx l2 => ?_⟩
             replace b4 := HS.back2 z.log0 (i := 5) (j := 6) (by decide) rfl rfl rfl (fun _ hb => hb) b4
             replace b4 := HS.lg b4 z l2
             generalize ({ oF with log := nx } : Heap) = p4 at b4 ⊢
             have b4 : HS _ _ _ [ea, pc, pr, pp, pl, [(bt.b, .cells [(iI s.top.code.params), (iI s.top.code.regs), (.slice ba s.top.code.blocks.length bk), (.slice nY om n9), (.slice aa s.top.args.length ak), (iI s.top.blk), (iI (s.top.at_ + 1)), (iI s.top.to_)] none false)], nO, po, I, A, av] _ := b4
             replace U := U.mono cv
             replace Z := Z.mono cv
             replace T := T.mono cv
             replace y3 := y3.mono cv
             replace V := V.mono cv
             replace y2 := SF.mono cv y2
             replace y4 := FAM.mono (fun k => CR.mono cv k) y4
             refine bz ?_
             refine aw 1 rfl ?_
             exact au ⟨.inl rfl, _, rfl, rfl, RunP.mk (bt := bt) (L := [I, A, av]) (by unfold bC; dsimp only [f5, gf, cC]; (repeat (first | rw [if_pos (by omega)] | rw [if_neg (by omega)] | rw [if_pos hlow] | rw [if_neg hlow] | (unfold cM; dsimp only [goT, aE]) | (unfold fF; dsimp only [aE]) | (unfold gg; dsimp only [cQ, aE]) | (unfold eS; dsimp only [cQ, aE]) | (unfold cH; dsimp only [aE]))); first | done | rfl | rw [hmap]) b4 (cv) T y2 y3 y4 V y7 U na Z⟩
            ·
             try simp only [BS] at h5
             refine wR 1 [] 103 104 [] [(103, (.bool (((s.top.code.blocks.getD s.top.blk.toNat default).ins.getD s.top.at_.toNat default).i.op == 15)))] trivial rfl fun _ => ?_
             refine am 0 1 (v := (((s.top.code.blocks.getD s.top.blk.toNat default).ins.getD s.top.at_.toNat default).i.op == 15)) rfl rfl rfl rfl (fun h6 => ?_) (fun h6 => ?_)
             ·
              try simp only [BS] at h6
              refine aI rfl ?_
              refine fm (.pointer (some ⟨bt.b, 0, none⟩)) rfl rfl rfl ?_
              refine ab (v := (.pointer (some ⟨E, 1, none⟩))) (id := .v) (aU rfl rfl) rfl rfl (az rfl) (ay _) ?_
              refine ab (v := (iI ((s.top.code.blocks.getD s.top.blk.toNat default).ins.getD s.top.at_.toNat default).i.a)) (id := .l E) (aD (i := 1) rfl rfl (HS.hc z.log0 (i := 10) rfl) rfl rfl) rfl rfl (aO rfl) (⟨.inl rfl, ⟨.inr trivial, trivial⟩⟩) ?_
              refine fm (.pointer (some ⟨bt.b, 0, none⟩)) rfl rfl rfl ?_
              refine ab (v := (.pointer (some ⟨E, 1, none⟩))) (id := .v) (aU rfl rfl) rfl rfl (az rfl) (ay _) ?_
              refine ab (v := (iI ((s.top.code.blocks.getD s.top.blk.toNat default).ins.getD s.top.at_.toNat default).i.a)) (id := .l E) (aD (i := 1) rfl rfl (HS.hc z.log0 (i := 10) rfl) rfl rfl) rfl rfl (aO rfl) (⟨.inl rfl, ⟨.inr trivial, ⟨.inr trivial, ⟨.inr trivial, ⟨.inr trivial, trivial⟩⟩⟩⟩⟩) ?_
              refine bm (W := []) (ax rfl rfl rfl) rfl rfl rfl (ic.jN ex s.top.regs ((s.top.code.blocks.getD s.top.blk.toNat default).ins.getD s.top.at_.toNat default).i.a _ (HS.hc z.log0 (i := 5) rfl) (OS.sv x2 z.log0 (i := 6) rfl) (by omega) (by omega)) (⟨.inl rfl, ⟨.inl rfl, ⟨.inl rfl, ⟨.inr List.not_mem_nil, ⟨.inr trivial, ⟨.inr trivial, trivial⟩⟩⟩⟩⟩⟩) ?_
              rintro _ _ ⟨ry, rfl, rfl, rfl⟩
              refine ⟨fun b hb => absurd hb List.not_mem_nil, fun ny l3 => ?_⟩
              have hE := HS.lg z.log0 z l3
              generalize ({ { c7 with log := [] } with log := ny } : Heap) = mx at hE ⊢
              refine bm (W := []) (ax rfl rfl rfl) rfl rfl rfl (iw.un_c ex (20) (bw s.top.regs ((s.top.code.blocks.getD s.top.blk.toNat default).ins.getD s.top.at_.toNat default).i.a) _) (⟨.inl rfl, ⟨.inl rfl, ⟨.inl rfl, ⟨.inl rfl, ⟨.inr List.not_mem_nil, ⟨.inr trivial, ⟨.inr trivial, trivial⟩⟩⟩⟩⟩⟩⟩) ?_
              rintro _ _ ⟨rz, rfl, rfl, rfl⟩
              refine ⟨fun b hb => absurd hb List.not_mem_nil, fun nz l4 => ?_⟩
              have hf := HS.lg hE.log0 hE l4
              generalize ({ { mx with log := [] } with log := nz } : Heap) = p5 at hf ⊢
              refine bm (W := (bt.b :: pg.map Prod.fst)) (ax rfl rfl rfl) rfl rfl rfl (i9 ex s.top.regs ((s.top.code.blocks.getD s.top.blk.toNat default).ins.getD s.top.at_.toNat default).i.a (unV (20 : Int) (bw s.top.regs ((s.top.code.blocks.getD s.top.blk.toNat default).ins.getD s.top.at_.toNat default).i.a)) (HS.call2 hf.log0 (i := 5) (j := 6) (by decide) rfl rfl) x2 (by first | omega | exact hgr _ | exact aK wf.rows _ | (dsimp only; omega)) (by first | omega | exact hgr _ | exact aK wf.rows _ | (dsimp only; omega)) (by first | omega | exact hgr _ | exact bg (hgr _) | exact bD | exact aJ _)) (⟨.inl rfl, ⟨.inl rfl, ⟨.inl rfl, ⟨.inl rfl, ⟨.inl rfl, ⟨.inl rfl, ⟨.inl rfl, ⟨.inl rfl, trivial⟩⟩⟩⟩⟩⟩⟩⟩) ?_
              rintro _ oG ⟨nZ, oo, ob, nP, qF, c0, b6, rfl, ne⟩
              refine ⟨HS.didW b6, fun nA l5 => ?_⟩
              replace b6 := HS.back2 hf.log0 (i := 5) (j := 6) (by decide) rfl rfl rfl (fun _ hb => hb) b6
              replace b6 := HS.lg b6 hf l5
              generalize ({ oG with log := nA } : Heap) = p6 at b6 ⊢
              have b6 : HS _ _ _ [ea, pc, pr, pp, pl, [(bt.b, .cells [(iI s.top.code.params), (iI s.top.code.regs), (.slice ba s.top.code.blocks.length bk), (.slice nZ oo ob), (.slice aa s.top.args.length ak), (iI s.top.blk), (iI (s.top.at_ + 1)), (iI s.top.to_)] none false)], nP, po, I, A, av] _ := b6
              replace U := U.mono c0
              replace Z := Z.mono c0
              replace T := T.mono c0
              replace y3 := y3.mono c0
              replace V := V.mono c0
              replace y2 := SF.mono c0 y2
              replace y4 := FAM.mono (fun k => CR.mono c0 k) y4
              refine bz ?_
              refine aw 1 rfl ?_
              exact au ⟨.inl rfl, _, rfl, rfl, RunP.mk (bt := bt) (L := [I, A, av]) (by unfold bC; dsimp only [f5, gf, cC]; (repeat (first | rw [if_pos (by omega)] | rw [if_neg (by omega)] | rw [if_pos hlow] | rw [if_neg hlow] | (unfold cM; dsimp only [goT, aE]) | (unfold fF; dsimp only [aE]) | (unfold gg; dsimp only [cQ, aE]) | (unfold eS; dsimp only [cQ, aE]) | (unfold cH; dsimp only [aE]))); first | done | rfl | rw [hmap]) b6 (c0) T y2 y3 y4 V y7 U ne Z⟩
             ·
              try simp only [BS] at h6
              refine wR 1 [] 114 115 [] [(114, (.bool (((s.top.code.blocks.getD s.top.blk.toNat default).ins.getD s.top.at_.toNat default).i.op == 16)))] trivial rfl fun _ => ?_
              refine am 0 1 (v := (((s.top.code.blocks.getD s.top.blk.toNat default).ins.getD s.top.at_.toNat default).i.op == 16)) rfl rfl rfl rfl (fun h7 => ?_) (fun h7 => ?_)
              ·
               try simp only [BS] at h7
               refine aI rfl ?_
               refine fm (.pointer (some ⟨bt.b, 0, none⟩)) rfl rfl rfl ?_
               refine ab (v := (.pointer (some ⟨E, 1, none⟩))) (id := .v) (aU rfl rfl) rfl rfl (az rfl) (ay _) ?_
               refine ab (v := (iI ((s.top.code.blocks.getD s.top.blk.toNat default).ins.getD s.top.at_.toNat default).i.a)) (id := .l E) (aD (i := 1) rfl rfl (HS.hc z.log0 (i := 10) rfl) rfl rfl) rfl rfl (aO rfl) (⟨.inl rfl, ⟨.inr trivial, trivial⟩⟩) ?_
               refine fm (.pointer (some ⟨bt.b, 0, none⟩)) rfl rfl rfl ?_
               refine ab (v := (.pointer (some ⟨E, 1, none⟩))) (id := .v) (aU rfl rfl) rfl rfl (az rfl) (ay _) ?_
               refine ab (v := (iI ((s.top.code.blocks.getD s.top.blk.toNat default).ins.getD s.top.at_.toNat default).i.a)) (id := .l E) (aD (i := 1) rfl rfl (HS.hc z.log0 (i := 10) rfl) rfl rfl) rfl rfl (aO rfl) (⟨.inl rfl, ⟨.inr trivial, ⟨.inr trivial, ⟨.inr trivial, ⟨.inr trivial, trivial⟩⟩⟩⟩⟩) ?_
               refine bm (W := []) (ax rfl rfl rfl) rfl rfl rfl (ic.jN ex s.top.regs ((s.top.code.blocks.getD s.top.blk.toNat default).ins.getD s.top.at_.toNat default).i.a _ (HS.hc z.log0 (i := 5) rfl) (OS.sv x2 z.log0 (i := 6) rfl) (by omega) (by omega)) (⟨.inl rfl, ⟨.inl rfl, ⟨.inl rfl, ⟨.inr List.not_mem_nil, ⟨.inr trivial, ⟨.inr trivial, trivial⟩⟩⟩⟩⟩⟩) ?_
               rintro _ _ ⟨rA, rfl, rfl, rfl⟩
               refine ⟨fun b hb => absurd hb List.not_mem_nil, fun nB l6 => ?_⟩
               have hF := HS.lg z.log0 z l6
               generalize ({ { c7 with log := [] } with log := nB } : Heap) = my at hF ⊢
               refine bm (W := []) (ax rfl rfl rfl) rfl rfl rfl (iw.un_c ex (21) (bw s.top.regs ((s.top.code.blocks.getD s.top.blk.toNat default).ins.getD s.top.at_.toNat default).i.a) _) (⟨.inl rfl, ⟨.inl rfl, ⟨.inl rfl, ⟨.inl rfl, ⟨.inr List.not_mem_nil, ⟨.inr trivial, ⟨.inr trivial, trivial⟩⟩⟩⟩⟩⟩⟩) ?_
               rintro _ _ ⟨rB, rfl, rfl, rfl⟩
               refine ⟨fun b hb => absurd hb List.not_mem_nil, fun nC l7 => ?_⟩
               have hg := HS.lg hF.log0 hF l7
               generalize ({ { my with log := [] } with log := nC } : Heap) = p7 at hg ⊢
               refine bm (W := (bt.b :: pg.map Prod.fst)) (ax rfl rfl rfl) rfl rfl rfl (i9 ex s.top.regs ((s.top.code.blocks.getD s.top.blk.toNat default).ins.getD s.top.at_.toNat default).i.a (unV (21 : Int) (bw s.top.regs ((s.top.code.blocks.getD s.top.blk.toNat default).ins.getD s.top.at_.toNat default).i.a)) (HS.call2 hg.log0 (i := 5) (j := 6) (by decide) rfl rfl) x2 (by first | omega | exact hgr _ | exact aK wf.rows _ | (dsimp only; omega)) (by first | omega | exact hgr _ | exact aK wf.rows _ | (dsimp only; omega)) (by first | omega | exact hgr _ | exact bg (hgr _) | exact bD | exact aJ _)) (⟨.inl rfl, ⟨.inl rfl, ⟨.inl rfl, ⟨.inl rfl, ⟨.inl rfl, ⟨.inl rfl, ⟨.inl rfl, ⟨.inl rfl, trivial⟩⟩⟩⟩⟩⟩⟩⟩) ?_
               rintro _ oH ⟨n1, oq, oc, nQ, qG, c3, b7, rfl, ng⟩
               refine ⟨HS.didW b7, fun nD l8 => ?_⟩
               replace b7 := HS.back2 hg.log0 (i := 5) (j := 6) (by decide) rfl rfl rfl (fun _ hb => hb) b7
               replace b7 := HS.lg b7 hg l8
               generalize ({ oH with log := nD } : Heap) = p8 at b7 ⊢
               have b7 : HS _ _ _ [ea, pc, pr, pp, pl, [(bt.b, .cells [(iI s.top.code.params), (iI s.top.code.regs), (.slice ba s.top.code.blocks.length bk), (.slice n1 oq oc), (.slice aa s.top.args.length ak), (iI s.top.blk), (iI (s.top.at_ + 1)), (iI s.top.to_)] none false)], nQ, po, I, A, av] _ := b7
               replace U := U.mono c3
               replace Z := Z.mono c3
               replace T := T.mono c3
               replace y3 := y3.mono c3
               replace V := V.mono c3
               replace y2 := SF.mono c3 y2
               replace y4 := FAM.mono (fun k => CR.mono c3 k) y4
               refine bz ?_
               refine aw 1 rfl ?_
               exact au ⟨.inl rfl, _, rfl, rfl, RunP.mk (bt := bt) (L := [I, A, av]) (by unfold bC; dsimp only [f5, gf, cC]; (repeat (first | rw [if_pos (by omega)] | rw [if_neg (by omega)] | rw [if_pos hlow] | rw [if_neg hlow] | (unfold cM; dsimp only [goT, aE]) | (unfold fF; dsimp only [aE]) | (unfold gg; dsimp only [cQ, aE]) | (unfold eS; dsimp only [cQ, aE]) | (unfold cH; dsimp only [aE]))); first | done | rfl | rw [hmap]) b7 (c3) T y2 y3 y4 V y7 U ng Z⟩
              ·
               try simp only [BS] at h7
               refine wR 1 [] 125 126 [] [(125, (.bool (((s.top.code.blocks.getD s.top.blk.toNat default).ins.getD s.top.at_.toNat default).i.op == 33)))] trivial rfl fun _ => ?_
               refine am 0 1 (v := (((s.top.code.blocks.getD s.top.blk.toNat default).ins.getD s.top.at_.toNat default).i.op == 33)) rfl rfl rfl rfl (fun h8 => ?_) (fun h8 => ?_)
               ·
                try simp only [BS] at h8
                refine aI rfl ?_
                refine fm (.pointer (some ⟨bt.b, 0, none⟩)) rfl rfl rfl ?_
                refine ab (v := (.pointer (some ⟨E, 1, none⟩))) (id := .v) (aU rfl rfl) rfl rfl (az rfl) (ay _) ?_
                refine ab (v := (iI ((s.top.code.blocks.getD s.top.blk.toNat default).ins.getD s.top.at_.toNat default).i.a)) (id := .l E) (aD (i := 1) rfl rfl (HS.hc z.log0 (i := 10) rfl) rfl rfl) rfl rfl (aO rfl) (⟨.inl rfl, ⟨.inr trivial, trivial⟩⟩) ?_
                refine fm (.pointer (some ⟨bt.b, 0, none⟩)) rfl rfl rfl ?_
                refine ab (v := (.pointer (some ⟨E, 1, none⟩))) (id := .v) (aU rfl rfl) rfl rfl (az rfl) (ay _) ?_
                refine ab (v := (iI ((s.top.code.blocks.getD s.top.blk.toNat default).ins.getD s.top.at_.toNat default).i.a)) (id := .l E) (aD (i := 1) rfl rfl (HS.hc z.log0 (i := 10) rfl) rfl rfl) rfl rfl (aO rfl) (⟨.inl rfl, ⟨.inr trivial, ⟨.inr trivial, ⟨.inr trivial, ⟨.inr trivial, trivial⟩⟩⟩⟩⟩) ?_
                refine bm (W := []) (ax rfl rfl rfl) rfl rfl rfl (ic.jN ex s.top.regs ((s.top.code.blocks.getD s.top.blk.toNat default).ins.getD s.top.at_.toNat default).i.a _ (HS.hc z.log0 (i := 5) rfl) (OS.sv x2 z.log0 (i := 6) rfl) (by omega) (by omega)) (⟨.inl rfl, ⟨.inl rfl, ⟨.inl rfl, ⟨.inr List.not_mem_nil, ⟨.inr trivial, ⟨.inr trivial, trivial⟩⟩⟩⟩⟩⟩) ?_
                rintro _ _ ⟨rD, rfl, rfl, rfl⟩
                refine ⟨fun b hb => absurd hb List.not_mem_nil, fun nE l9 => ?_⟩
                have f9 := HS.lg z.log0 z l9
                generalize ({ { c7 with log := [] } with log := nE } : Heap) = p9 at f9 ⊢
                refine ab (v := (.pointer (some ⟨E, 4, none⟩))) (id := .v) (aU rfl rfl) rfl rfl (az rfl) (ay _) ?_
                refine ab (v := (iI ((s.top.code.blocks.getD s.top.blk.toNat default).ins.getD s.top.at_.toNat default).i.n)) (id := .l E) (aD (i := 4) rfl rfl (HS.hc f9.log0 (i := 10) rfl) rfl rfl) rfl rfl (aO rfl) (⟨.inl rfl, ⟨.inr List.not_mem_nil, ⟨.inr trivial, ⟨.inr trivial, ⟨.inr trivial, ⟨.inr trivial, ⟨.inr trivial, ⟨.inr trivial, trivial⟩⟩⟩⟩⟩⟩⟩⟩) ?_
                refine ab (v := (iI (IntKind.i64.wrap ((bw s.top.regs ((s.top.code.blocks.getD s.top.blk.toNat default).ins.getD s.top.at_.toNat default).i.a) + ((s.top.code.blocks.getD s.top.blk.toNat default).ins.getD s.top.at_.toNat default).i.n)))) (id := .v) (ap_add rfl rfl rfl) rfl rfl (az rfl) (ay _) ?_
                refine bm (W := (bt.b :: pg.map Prod.fst)) (ax rfl rfl rfl) rfl rfl rfl (i9 ex s.top.regs ((s.top.code.blocks.getD s.top.blk.toNat default).ins.getD s.top.at_.toNat default).i.a (IntKind.i64.wrap ((bw s.top.regs ((s.top.code.blocks.getD s.top.blk.toNat default).ins.getD s.top.at_.toNat default).i.a) + ((s.top.code.blocks.getD s.top.blk.toNat default).ins.getD s.top.at_.toNat default).i.n)) (HS.call2 f9.log0 (i := 5) (j := 6) (by decide) rfl rfl) x2 (by first | omega | exact hgr _ | exact aK wf.rows _ | (dsimp only; omega)) (by first | omega | exact hgr _ | exact aK wf.rows _ | (dsimp only; omega)) (by first | omega | exact hgr _ | exact bg (hgr _) | exact bD | exact aJ _)) (⟨.inl rfl, ⟨.inl rfl, ⟨.inl rfl, ⟨.inl rfl, ⟨.inl rfl, ⟨.inl rfl, ⟨.inl rfl, ⟨.inl rfl, ⟨.inl rfl, ⟨.inl rfl, trivial⟩⟩⟩⟩⟩⟩⟩⟩⟩⟩) ?_
                rintro _ oI ⟨n2, ot, od, nR, qH, c4, b9, rfl, nh⟩
                refine ⟨HS.didW b9, fun nF ma => ?_⟩
                replace b9 := HS.back2 f9.log0 (i := 5) (j := 6) (by decide) rfl rfl rfl (fun _ hb => hb) b9
                replace b9 := HS.lg b9 f9 ma
                generalize ({ oI with log := nF } : Heap) = qa at b9 ⊢
                have b9 : HS _ _ _ [ea, pc, pr, pp, pl, [(bt.b, .cells [(iI s.top.code.params), (iI s.top.code.regs), (.slice ba s.top.code.blocks.length bk), (.slice n2 ot od), (.slice aa s.top.args.length ak), (iI s.top.blk), (iI (s.top.at_ + 1)), (iI s.top.to_)] none false)], nR, po, I, A, av] _ := b9
                replace U := U.mono c4
                replace Z := Z.mono c4
                replace T := T.mono c4
                replace y3 := y3.mono c4
                replace V := V.mono c4
                replace y2 := SF.mono c4 y2
                replace y4 := FAM.mono (fun k => CR.mono c4 k) y4
                refine bz ?_
                refine aw 1 rfl ?_
                exact au ⟨.inl rfl, _, rfl, rfl, RunP.mk (bt := bt) (L := [I, A, av]) (by unfold bC; dsimp only [f5, gf, cC]; (repeat (first | rw [if_pos (by omega)] | rw [if_neg (by omega)] | rw [if_pos hlow] | rw [if_neg hlow] | (unfold cM; dsimp only [goT, aE]) | (unfold fF; dsimp only [aE]) | (unfold gg; dsimp only [cQ, aE]) | (unfold eS; dsimp only [cQ, aE]) | (unfold cH; dsimp only [aE]))); first | done | rfl | rw [hmap]) b9 (c4) T y2 y3 y4 V y7 U nh Z⟩
               ·
                try simp only [BS] at h8
                refine wR 3 [(2, .o (iI ((s.top.code.blocks.getD s.top.blk.toNat default).ins.getD s.top.at_.toNat default).i.b)), (3, .o (iI (bw s.top.regs ((s.top.code.blocks.getD s.top.blk.toNat default).ins.getD s.top.at_.toNat default).i.b)))] 9 12 [6] [(6, (iI (bw s.top.regs ((s.top.code.blocks.getD s.top.blk.toNat default).ins.getD s.top.at_.toNat default).i.b)))] (vA (ql 3 2 (HS.hc z (i := 10) rfl) rfl rfl) (vA (ic.fc ex s.top.regs ((s.top.code.blocks.getD s.top.blk.toNat default).ins.getD s.top.at_.toNat default).i.b c7 (HS.hc z (i := 5) rfl) (OS.sv x2 z (i := 6) rfl) (by omega) (by omega)) trivial)) rfl fun _ => ?_
                refine wR 1 [(1, .o (iI ((s.top.code.blocks.getD s.top.blk.toNat default).ins.getD s.top.at_.toNat default).i.op)), (5, .o (iI ((s.top.code.blocks.getD s.top.blk.toNat default).ins.getD s.top.at_.toNat default).i.op))] 13 24 [] [(24, (.bool (((((s.top.code.blocks.getD s.top.blk.toNat default).ins.getD s.top.at_.toNat default).i.op == 20) || (((s.top.code.blocks.getD s.top.blk.toNat default).ins.getD s.top.at_.toNat default).i.op == 21)) && (bw s.top.regs ((s.top.code.blocks.getD s.top.blk.toNat default).ins.getD s.top.at_.toNat default).i.b == 0))))] (vA (ql 3 0 (HS.hc z (i := 10) rfl) rfl rfl) (vA (fun (g1 : (((s.top.code.blocks.getD s.top.blk.toNat default).ins.getD s.top.at_.toNat default).i.op == 20) = false) => (ql 3 0 (HS.hc z (i := 10) rfl) rfl rfl)) trivial)) rfl fun _ => ?_
                refine am 1 1 (v := (((((s.top.code.blocks.getD s.top.blk.toNat default).ins.getD s.top.at_.toNat default).i.op == 20) || (((s.top.code.blocks.getD s.top.blk.toNat default).ins.getD s.top.at_.toNat default).i.op == 21)) && (bw s.top.regs ((s.top.code.blocks.getD s.top.blk.toNat default).ins.getD s.top.at_.toNat default).i.b == 0))) rfl rfl rfl rfl (fun h9 => ?_) (fun h9 => ?_)
                ·
                 try simp only [BS] at h9
                 refine ae ?_
                 refine wm (.pointer (some ⟨b, 0, none⟩)) rfl rfl rfl ?_
                 refine aF (ax rfl rfl rfl) rfl rfl (jU ex (2) (1) (0) (HS.callOwn z (i := 0) rfl)) ?_
                 rintro _ qQ ⟨gn, rfl⟩
                 replace gn := HS.backOwn z (i := 0) rfl rfl (fun _ hb => hb) gn
                 have gn : HS _ _ _ [[(b, .cells [(.slice la P.length lk), (.slice ca hd.length ck), (.slice pa (ps ++ [bt]).length pk), (iI s.fuel), (.bool true), (iI 2), (iI 1), (.slice oa s.out.length ok), (iI 0)] none false)], pc, pr, pp, pl, [(bt.b, .cells [(iI s.top.code.params), (iI s.top.code.regs), (.slice ba s.top.code.blocks.length bk), (.slice ra s.top.regs.length rk), (.slice aa s.top.args.length ak), (iI s.top.blk), (iI (s.top.at_ + 1)), (iI s.top.to_)] none false)], pg, po, I, A, av] _ := gn
                 refine ao 1 rfl ?_
                 exact aj ⟨.inr rfl, _, rfl, rfl, RunP.mk (bt := bt) (L := [I, A, av]) (by unfold bC; dsimp only [f5, gf, cC]; (repeat (first | rw [if_pos (by omega)] | rw [if_neg (by omega)] | rw [if_pos hlow] | rw [if_neg hlow] | (unfold cM; dsimp only [goT, aE]) | (unfold fF; dsimp only [aE]) | (unfold gg; dsimp only [cQ, aE]) | (unfold eS; dsimp only [cQ, aE]) | (unfold cH; dsimp only [aE]))); first | done | rfl | rw [hmap]) gn fR T y2 y3 y4 V (by omega) U x2 Z⟩
                ·
                 try simp only [BS] at h9
                 refine aI rfl ?_
                 refine fm (.pointer (some ⟨bt.b, 0, none⟩)) rfl rfl rfl ?_
                 refine ab (v := (.pointer (some ⟨E, 1, none⟩))) (id := .v) (aU rfl rfl) rfl rfl (az rfl) (ay _) ?_
                 refine ab (v := (iI ((s.top.code.blocks.getD s.top.blk.toNat default).ins.getD s.top.at_.toNat default).i.a)) (id := .l E) (aD (i := 1) rfl rfl (HS.hc z.log0 (i := 10) rfl) rfl rfl) rfl rfl (aO rfl) (⟨.inl rfl, ⟨.inr trivial, trivial⟩⟩) ?_
                 refine ab (v := (.pointer (some ⟨E, 0, none⟩))) (id := .v) (aU rfl rfl) rfl rfl (az rfl) (ay _) ?_
                 refine ab (v := (iI ((s.top.code.blocks.getD s.top.blk.toNat default).ins.getD s.top.at_.toNat default).i.op)) (id := .l E) (aD (i := 0) rfl rfl (HS.hc z.log0 (i := 10) rfl) rfl rfl) rfl rfl (aO rfl) (⟨.inl rfl, ⟨.inr trivial, ⟨.inr trivial, ⟨.inr trivial, trivial⟩⟩⟩⟩) ?_
                 refine ab (v := (iI (((s.top.code.blocks.getD s.top.blk.toNat default).ins.getD s.top.at_.toNat default).i.op - 17))) (id := .v) (ap_sub rfl rfl (kw (n := ((s.top.code.blocks.getD s.top.blk.toNat default).ins.getD s.top.at_.toNat default).i.op - 17) (by omega))) rfl rfl (az rfl) (ay _) ?_
                 refine ab (v := (iI ((((s.top.code.blocks.getD s.top.blk.toNat default).ins.getD s.top.at_.toNat default).i.op - 17) + 4))) (id := .v) (ap_add rfl rfl (kw (n := (((s.top.code.blocks.getD s.top.blk.toNat default).ins.getD s.top.at_.toNat default).i.op - 17) + 4) (by omega))) rfl rfl (az rfl) (ay _) ?_
                 refine fm (.pointer (some ⟨bt.b, 0, none⟩)) rfl rfl rfl ?_
                 refine ab (v := (.pointer (some ⟨E, 1, none⟩))) (id := .v) (aU rfl rfl) rfl rfl (az rfl) (ay _) ?_
                 refine ab (v := (iI ((s.top.code.blocks.getD s.top.blk.toNat default).ins.getD s.top.at_.toNat default).i.a)) (id := .l E) (aD (i := 1) rfl rfl (HS.hc z.log0 (i := 10) rfl) rfl rfl) rfl rfl (aO rfl) (⟨.inl rfl, ⟨.inr trivial, ⟨.inr trivial, ⟨.inr trivial, ⟨.inr trivial, ⟨.inr trivial, ⟨.inr trivial, ⟨.inr trivial, ⟨.inr trivial, trivial⟩⟩⟩⟩⟩⟩⟩⟩⟩) ?_
                 refine bm (W := []) (ax rfl rfl rfl) rfl rfl rfl (ic.jN ex s.top.regs ((s.top.code.blocks.getD s.top.blk.toNat default).ins.getD s.top.at_.toNat default).i.a _ (HS.hc z.log0 (i := 5) rfl) (OS.sv x2 z.log0 (i := 6) rfl) (by omega) (by omega)) (⟨.inl rfl, ⟨.inl rfl, ⟨.inl rfl, ⟨.inr trivial, ⟨.inr trivial, ⟨.inr List.not_mem_nil, ⟨.inr trivial, ⟨.inr List.not_mem_nil, ⟨.inr trivial, ⟨.inr trivial, trivial⟩⟩⟩⟩⟩⟩⟩⟩⟩⟩) ?_
                 rintro _ _ ⟨rE, rfl, rfl, rfl⟩
                 refine ⟨fun b hb => absurd hb List.not_mem_nil, fun nG mb => ?_⟩
                 have hG := HS.lg z.log0 z mb
                 generalize ({ { c7 with log := [] } with log := nG } : Heap) = mz at hG ⊢
                 refine fm (iI (bw s.top.regs ((s.top.code.blocks.getD s.top.blk.toNat default).ins.getD s.top.at_.toNat default).i.b)) rfl rfl rfl ?_
                 refine bm (W := []) (ax rfl rfl rfl) rfl rfl rfl (iw.bin_c ex ((((s.top.code.blocks.getD s.top.blk.toNat default).ins.getD s.top.at_.toNat default).i.op - 17) + 4) (bw s.top.regs ((s.top.code.blocks.getD s.top.blk.toNat default).ins.getD s.top.at_.toNat default).i.a) (bw s.top.regs ((s.top.code.blocks.getD s.top.blk.toNat default).ins.getD s.top.at_.toNat default).i.b) _) (⟨.inl rfl, ⟨.inl rfl, ⟨.inl rfl, ⟨.inl rfl, ⟨.inl rfl, ⟨.inl rfl, ⟨.inl rfl, ⟨.inl rfl, ⟨.inl rfl, ⟨.inr List.not_mem_nil, ⟨.inr trivial, ⟨.inr trivial, trivial⟩⟩⟩⟩⟩⟩⟩⟩⟩⟩⟩⟩) ?_
                 rintro _ _ ⟨rF, rfl, rfl, rfl⟩
                 refine ⟨fun b hb => absurd hb List.not_mem_nil, fun nH mc => ?_⟩
                 have hh := HS.lg hG.log0 hG mc
                 generalize ({ { mz with log := [] } with log := nH } : Heap) = qb at hh ⊢
                 refine bm (W := (bt.b :: pg.map Prod.fst)) (ax rfl rfl rfl) rfl rfl rfl (i9 ex s.top.regs ((s.top.code.blocks.getD s.top.blk.toNat default).ins.getD s.top.at_.toNat default).i.a (binV ((((s.top.code.blocks.getD s.top.blk.toNat default).ins.getD s.top.at_.toNat default).i.op - 17) + 4) (bw s.top.regs ((s.top.code.blocks.getD s.top.blk.toNat default).ins.getD s.top.at_.toNat default).i.a) (bw s.top.regs ((s.top.code.blocks.getD s.top.blk.toNat default).ins.getD s.top.at_.toNat default).i.b)) (HS.call2 hh.log0 (i := 5) (j := 6) (by decide) rfl rfl) x2 (by first | omega | exact hgr _ | exact aK wf.rows _ | (dsimp only; omega)) (by first | omega | exact hgr _ | exact aK wf.rows _ | (dsimp only; omega)) (by first | omega | exact hgr _ | exact bg (hgr _) | exact bD | exact aJ _)) (⟨.inl rfl, ⟨.inl rfl, ⟨.inl rfl, ⟨.inl rfl, ⟨.inl rfl, ⟨.inl rfl, ⟨.inl rfl, ⟨.inl rfl, ⟨.inl rfl, ⟨.inl rfl, ⟨.inl rfl, ⟨.inl rfl, ⟨.inl rfl, trivial⟩⟩⟩⟩⟩⟩⟩⟩⟩⟩⟩⟩⟩) ?_
                 rintro _ oJ ⟨n3, ou, oe, nS, qI, c5, cd, rfl, ni⟩
                 refine ⟨HS.didW cd, fun nI md => ?_⟩
                 replace cd := HS.back2 hh.log0 (i := 5) (j := 6) (by decide) rfl rfl rfl (fun _ hb => hb) cd
                 replace cd := HS.lg cd hh md
                 generalize ({ oJ with log := nI } : Heap) = qc at cd ⊢
                 have cd : HS _ _ _ [ea, pc, pr, pp, pl, [(bt.b, .cells [(iI s.top.code.params), (iI s.top.code.regs), (.slice ba s.top.code.blocks.length bk), (.slice n3 ou oe), (.slice aa s.top.args.length ak), (iI s.top.blk), (iI (s.top.at_ + 1)), (iI s.top.to_)] none false)], nS, po, I, A, av] _ := cd
                 replace U := U.mono c5
                 replace Z := Z.mono c5
                 replace T := T.mono c5
                 replace y3 := y3.mono c5
                 replace V := V.mono c5
                 replace y2 := SF.mono c5 y2
                 replace y4 := FAM.mono (fun k => CR.mono c5 k) y4
                 refine bz ?_
                 refine aw 1 rfl ?_
                 exact au ⟨.inl rfl, _, rfl, rfl, RunP.mk (bt := bt) (L := [I, A, av]) (by unfold bC; dsimp only [f5, gf, cC]; (repeat (first | rw [if_pos (by omega)] | rw [if_neg (by omega)] | rw [if_pos hlow] | rw [if_neg hlow] | (unfold cM; dsimp only [goT, aE]) | (unfold fF; dsimp only [aE]) | (unfold gg; dsimp only [cQ, aE]) | (unfold eS; dsimp only [cQ, aE]) | (unfold cH; dsimp only [aE]))); first | done | rfl | rw [hmap]) cd (c5) T y2 y3 y4 V y7 U ni Z⟩
       rintro _ qR ⟨rfl, i1⟩
       refine ao 1 rfl ?_
       exact au ⟨.inl rfl, _, rfl, rfl, i1⟩
end Go.Proofs.YtlabedbmgmfbaaaDoor.is_
