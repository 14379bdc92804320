/-
 One step of the interpreter of virtual code, by a symbolic run. No condition but that the table lies as laid.
-/
import Derived.Test.YtlabedbmgmfbaaaDoorZIIC
import Derived.Test.YtlabedbmgmfbaaaDoorZIRC
noncomputable section
namespace Go.Proofs.YtlabedbmgmfbaaaDoor.is_
open Go.R
set_option maxRecDepth 10000
set_option linter.unusedVariables false
open m1 m2 m3 m4 m5 m6 m7 m8 iw ia ib ic
theorem last_get {ps : List PtrT} {bt : PtrT} {n : Int} (h : n = (ps.length : Int)) : (ps ++ [bt]).getD n.toNat default = bt := by subst h; simp
theorem take_last {ps : List PtrT} {bt : PtrT} {n : Nat} (h : n = ps.length) : (ps ++ [bt]).take n = ps := by subst h; simp
theorem kE {f : Int → Int} {l ag : List Int} {j : Nat} (h : ag = (l.take j).map f) (hj : j < l.length) : ag ++ [f (l.getD j 0)] = (l.take (j + 1)).map f := by
 rw [h, List.take_add_one, List.map_append, List.getD_eq_getElem?_getD, List.getElem?_eq_getElem hj]; rfl
theorem map_all {f : Int → Int} {l ag : List Int} {j : Nat} (h : ag = (l.take j).map f) (hj : l.length ≤ j) : ag = l.map f := by rw [h, List.take_of_length_le hj]
set_option maxHeartbeats 4000000 in
theorem step_c (ex : FuncId) {F : Fz} {H : Heap} {R : List Fp} {b : Nat} {la : Option Addr} {lk : Nat} {ca : Option Addr} {cn ck : Nat} {pa : Option Addr} {pn pk : Nat} {oa : Option Addr} {on ok : Nat} {q : Fp} {P : List VFnT} {nc N : Nat} (s : RunS) (hs : HS (.of H (b :: q.map Prod.fst)) F H [[(b, .cells [.slice la P.length lk, .slice ca cn ck, .slice pa pn pk, .int .i64 s.fuel, .bool s.over, .int .i64 s.kind, .int .i64 s.code, .slice oa on ok, .int .i64 s.val] none false)], q] R) (hq : RunQ F s ca cn ck pa pn pk oa on ok q) (hP : SR F (.slice la P.length lk) P) (hp : PrF P nc) (wf : RunOK P nc s N) (hil : ∀ c ∈ P, ∀ k, (c.blocks.getD k default).ins.length ≤ 1000000) (hN : N ≤ 1000000) : C Tryd.prog 1 (KT 60 ex 37 tabC) 72 [.pointer (some ⟨b, 0, none⟩)] H fun v H' => v = .tuple #[] ∧ RunP (.of H (b :: q.map Prod.fst)) F R P la lk b (bz P s) H' := by
 obtain ⟨hd, ps, bt, pc, pr, pp, pl, po, ba, bk, ra, rn, rk, aa, an, ak, pg, hsO, T, y2, y3, y4, V, y7, U, x2, Z⟩ := RunQ.open hq hs
 obtain rfl := OS.nlen T; obtain rfl := OS.nlen y3; obtain rfl := OS.nlen V; obtain rfl := OS.nlen x2
 have lan := SR.len' Z; subst lan
 have hC := wf.top; have hbk := hC.blk; have hat := hC.at_; have hrl := hC.regs; have hal := hC.args; have hto := hC.to_; have hcl := wf.cells; have hcnt := wf.cnt; have hfu := wf.fuel; have hps := FAM.len y4; have r2 := FAM.len y2
 have hgr : ∀ n, in64 (bo s.top.regs n) := fun n => sv_in (OS.sv x2 hsO (i := 6) rfl) n
 have hlim := hp.lim _ hC.mem; have hmi := hil _ hC.mem s.top.blk.toNat; have hfx := iU (b := (s.top.code.blocks.getD s.top.blk.toNat default)) (hC.fin hp) hlim.2.2.2.1
 have hpl : (ps ++ [bt]).length = ps.length + 1 := by simp
 clear hs hq
 refine aJ Tryd.func72 rfl rfl ?_
 refine ao 1 rfl ?_
 obtain ⟨rZ, pI⟩ := Sv.view (OS.sv y3 hsO (i := 3) rfl)
 refine wRD 2 [(3, .o (.slice pa (ps ++ [bt]).length pk)), (7, .o (.slice pa (ps ++ [bt]).length pk)), (11, .o (.pointer (some ⟨bt.b, 0, none⟩)))] 8 19 [2] [(2, (.pointer (some ⟨bt.b, 0, none⟩)))] (vA (ql 110 2 (hc0 (HS.hc hsO (i := 0) rfl)) rfl rfl) (vA (ql 110 2 (hc0 (HS.hc hsO (i := 0) rfl)) rfl rfl) (vA (vi (n := ((ps ++ [bt]).length : Int) - 1) (by omega)) (vA (Sv.ix (j := ((ps ++ [bt]).length : Int) - 1) (OS.sv y3 hsO (i := 3) rfl) (by omega) (by omega)) (vA (ptq (show ((ps ++ [bt]).getD (((ps ++ [bt]).length : Int) - 1).toNat default) = bt from by exact last_get (by omega)) (ql 107 0 (hc0 (vP (pI (((ps ++ [bt]).length : Int) - 1).toNat) (by omega))) rfl rfl)) trivial))))) rfl rfl fun _ => ?_
 refine aG rfl ?_
 refine fm (.pointer (some ⟨bt.b, 0, none⟩)) rfl rfl rfl ?_
 refine wfv (v := (.pointer (some ⟨bt.b, 0, none⟩))) (bB rfl) ?_
 refine wfv (v := (.pointer (some ⟨bt.b, 0, none⟩))) (aR rfl rfl) ?_
 refine wfv (v := (.pointer (some ⟨bt.b, 2, none⟩))) (aR rfl rfl) ?_
 refine au (v := (.slice ba s.top.code.blocks.length bk)) (id := .l bt.b) (aA (i := 2) rfl rfl (HS.hc hsO.log0 (i := 5) rfl) rfl rfl) rfl rfl (aL rfl) (kb rfl) ?_
 refine fm (.pointer (some ⟨bt.b, 0, none⟩)) rfl rfl rfl ?_
 refine wfv (v := (.pointer (some ⟨bt.b, 0, none⟩))) (bB rfl) ?_
 refine wfv (v := (.pointer (some ⟨bt.b, 5, none⟩))) (aR rfl rfl) ?_
 refine au (v := (iI s.top.blk)) (id := .l bt.b) (aA (i := 5) rfl rfl (HS.hc hsO.log0 (i := 5) rfl) rfl rfl) rfl rfl (aL rfl) (kb rfl) ?_
 refine wfv (v := (.pointer (some ⟨sB (.slice ba s.top.code.blocks.length bk), sO (.slice ba s.top.code.blocks.length bk) + s.top.blk.toNat * Rp.sz BlkT, none⟩))) (bd (α := BlkT) (j := s.top.blk) rfl rfl rfl rfl (SR.sv U hsO.log0) (by omega) (by omega)) ?_
 obtain ⟨r0, pH, pF⟩ := Sv.at (SR.sv U hsO.log0) (aI (x := default) (show s.top.blk.toNat < s.top.code.blocks.length from by omega))
 obtain ⟨e5, f6, rfl, q6, q7, q8, q9, mj⟩ := pH
 refine au (v := (.agg ⟨[(.slice e5 (s.top.code.blocks.getD s.top.blk.toNat default).ins.length f6), (iI (s.top.code.blocks.getD s.top.blk.toNat default).fin), (iI (s.top.code.blocks.getD s.top.blk.toNat default).reg), (iI (s.top.code.blocks.getD s.top.blk.toNat default).tgt), (iI (s.top.code.blocks.getD s.top.blk.toNat default).els)]⟩)) (id := .l (sB (.slice ba s.top.code.blocks.length bk))) (fk (i := 0) rfl rfl rfl pF rfl rfl rfl) rfl rfl (aL rfl) (kb rfl) ?_
 refine dJ (id := .a) (bp hsO.log0 rfl) rfl rfl (fun _ _ _ _ => gN rfl rfl rfl) (kb rfl) ?_
 rintro _ H6 _ ⟨b5, rfl, hr, _⟩ pK oK
 replace hr := HS.lg hr hsO oK
 generalize ({ H6 with log := pK } : Heap) = rP at hr ⊢
 let dn : Fp := [(b, .cells [(.slice la P.length lk), (.slice ca hd.length ck), (.slice pa (ps ++ [bt]).length pk), (iI s.fuel), (.bool s.over), (iI s.kind), (iI s.code), (.slice oa s.out.length ok), (iI s.val)] none false)]
 have hr : HS _ _ _ [dn, pc, pr, pp, pl, [(bt.b, .cells [(iI s.top.code.params), (iI s.top.code.regs), (.slice ba s.top.code.blocks.length bk), (.slice ra s.top.regs.length rk), (.slice aa s.top.args.length ak), (iI s.top.blk), (iI s.top.at_), (iI s.top.to_)] none false)], pg, po, [(b5, .cells [(.slice none 0 0), (iI 0), (iI 0), (iI 0), (iI 0)] none false)]] _ := hr
 refine ed (id := .x [b5]) (ax (q := 8) hr.log0 rfl rfl rfl rfl rfl rfl rfl rfl rfl) rfl (by rintro _ _ _ ⟨_, hwr⟩; exact cE rfl rfl (Wr.did hwr)) (kb rfl) ?_
 rintro _ H7 _ ⟨a7, _⟩ pL oL
 replace a7 := HS.lg a7 hr oL
 generalize ({ H7 with log := pL } : Heap) = rQ at a7 ⊢
 let E : Fp := [(b5, .cells [(.slice e5 (s.top.code.blocks.getD s.top.blk.toNat default).ins.length f6), (iI (s.top.code.blocks.getD s.top.blk.toNat default).fin), (iI (s.top.code.blocks.getD s.top.blk.toNat default).reg), (iI (s.top.code.blocks.getD s.top.blk.toNat default).tgt), (iI (s.top.code.blocks.getD s.top.blk.toNat default).els)] none false)]
 have a7 : HS _ _ _ [_, _, _, _, _, _, _, _, E] _ := a7
 refine bw ?_
 refine ao 3 rfl ?_
 refine wRD 1 [(3, .o (iI s.top.at_)), (5, .o (.slice e5 (s.top.code.blocks.getD s.top.blk.toNat default).ins.length f6))] 31 38 [] [(38, (.bool (s.top.at_ == ((s.top.code.blocks.getD s.top.blk.toNat default).ins.length : Int))))] (vA (ql 3 6 (hc0 (HS.hc a7 (i := 5) rfl)) rfl rfl) (vA (ql 40 0 (hc0 (HS.hc a7 (i := 8) rfl)) rfl rfl) trivial)) rfl rfl fun _ => ?_
 refine aj 1 2 (v := (s.top.at_ == ((s.top.code.blocks.getD s.top.blk.toNat default).ins.length : Int))) rfl rfl rfl rfl (fun c9 => ?_) (fun c9 => ?_)
 ·
  try simp only [BS] at c9
  refine ab ?_
  refine wRo 2 0 [] 39 40 [] [(39, (.pointer (some ⟨b, 0, none⟩))), (40, (.pointer (some ⟨bt.b, 0, none⟩)))] trivial rfl fun _ => ?_
  refine aC (R := fun w' H' => w' = .tuple #[] ∧ RunP (.of H (b :: q.map Prod.fst)) F R P la lk b (bz P s) H') (aw rfl rfl rfl) rfl rfl ?_ ?_
  ·
   refine aJ Tryd.func85 rfl rfl ?_
   refine ao 1 rfl ?_
   refine aG rfl ?_
   refine fm (.pointer (some ⟨bt.b, 0, none⟩)) rfl rfl rfl ?_
   refine wfv (v := (.pointer (some ⟨bt.b, 0, none⟩))) (bB rfl) ?_
   refine wfv (v := (.pointer (some ⟨bt.b, 0, none⟩))) (aR rfl rfl) ?_
   refine wfv (v := (.pointer (some ⟨bt.b, 2, none⟩))) (aR rfl rfl) ?_
   refine au (v := (.slice ba s.top.code.blocks.length bk)) (id := .l bt.b) (aA (i := 2) rfl rfl (HS.hc a7.log0 (i := 5) rfl) rfl rfl) rfl rfl (aL rfl) (kb rfl) ?_
   refine fm (.pointer (some ⟨bt.b, 0, none⟩)) rfl rfl rfl ?_
   refine wfv (v := (.pointer (some ⟨bt.b, 0, none⟩))) (bB rfl) ?_
   refine wfv (v := (.pointer (some ⟨bt.b, 5, none⟩))) (aR rfl rfl) ?_
   refine au (v := (iI s.top.blk)) (id := .l bt.b) (aA (i := 5) rfl rfl (HS.hc a7.log0 (i := 5) rfl) rfl rfl) rfl rfl (aL rfl) (kb rfl) ?_
   refine wfv (v := (.pointer (some ⟨sB (.slice ba s.top.code.blocks.length bk), sO (.slice ba s.top.code.blocks.length bk) + s.top.blk.toNat * Rp.sz BlkT, none⟩))) (bd (α := BlkT) (j := s.top.blk) rfl rfl rfl rfl (SR.sv U a7.log0) (by omega) (by omega)) ?_
   obtain ⟨q2, oP, oH⟩ := Sv.at (SR.sv U a7.log0) (aI (x := default) (show s.top.blk.toNat < s.top.code.blocks.length from by omega))
   obtain ⟨k3, lp, rfl, qd, qe, qf, qg, qs⟩ := oP
   refine au (v := (.agg ⟨[(.slice k3 (s.top.code.blocks.getD s.top.blk.toNat default).ins.length lp), (iI (s.top.code.blocks.getD s.top.blk.toNat default).fin), (iI (s.top.code.blocks.getD s.top.blk.toNat default).reg), (iI (s.top.code.blocks.getD s.top.blk.toNat default).tgt), (iI (s.top.code.blocks.getD s.top.blk.toNat default).els)]⟩)) (id := .l (sB (.slice ba s.top.code.blocks.length bk))) (fk (i := 0) rfl rfl rfl oH rfl rfl rfl) rfl rfl (aL rfl) (kb rfl) ?_
   refine dJ (id := .a) (bp a7.log0 rfl) rfl rfl (fun _ _ _ _ => gN rfl rfl rfl) (kb rfl) ?_
   rintro _ ph _ ⟨ly, rfl, e9, _⟩ oY mA
   replace e9 := HS.lg e9 a7 mA
   generalize ({ ph with log := oY } : Heap) = qI at e9 ⊢
   have e9 : HS _ _ _ [_, _, _, _, _, _, _, _, _, [(ly, .cells [(.slice none 0 0), (iI 0), (iI 0), (iI 0), (iI 0)] none false)]] _ := e9
   refine ed (id := .x [ly]) (ax (q := 9) e9.log0 rfl rfl rfl rfl rfl rfl rfl rfl rfl) rfl (by rintro _ _ _ ⟨_, hwr⟩; exact cE rfl rfl (Wr.did hwr)) (kb rfl) ?_
   rintro _ pi _ ⟨J, _⟩ oZ mB
   replace J := HS.lg J e9 mB
   generalize ({ pi with log := oZ } : Heap) = hT at J ⊢
   let ec : Fp := [(ly, .cells [(.slice k3 (s.top.code.blocks.getD s.top.blk.toNat default).ins.length lp), (iI (s.top.code.blocks.getD s.top.blk.toNat default).fin), (iI (s.top.code.blocks.getD s.top.blk.toNat default).reg), (iI (s.top.code.blocks.getD s.top.blk.toNat default).tgt), (iI (s.top.code.blocks.getD s.top.blk.toNat default).els)] none false)]
   have J : HS _ _ _ [_, _, _, _, _, _, _, _, _, ec] _ := J
   refine bw ?_
   refine ao 2 rfl ?_
   refine wR 3 [(1, .o (iI (s.top.code.blocks.getD s.top.blk.toNat default).fin))] 17 18 [] [(18, (iI (s.top.code.blocks.getD s.top.blk.toNat default).fin))] (vA (ql 3 1 (HS.hc J (i := 9) rfl) rfl rfl) trivial) rfl fun _ => ?_
   refine wR 1 [] 23 24 [] [(23, (.bool ((s.top.code.blocks.getD s.top.blk.toNat default).fin == 1)))] trivial rfl fun _ => ?_
   refine aj 0 1 (v := ((s.top.code.blocks.getD s.top.blk.toNat default).fin == 1)) rfl rfl rfl rfl (fun lA => ?_) (fun lA => ?_)
   ·
    try simp only [BS] at lA
    refine ab ?_
    refine wRo 6 0 [(3, .o (iI (s.top.code.blocks.getD s.top.blk.toNat default).tgt))] 25 30 [] [(26, (.pointer (some ⟨bt.b, 0, none⟩))), (28, (iI (s.top.code.blocks.getD s.top.blk.toNat default).tgt)), (30, (.pointer (some ⟨bt.b, 5, none⟩)))] (vA (ql 3 3 (HS.hc J (i := 9) rfl) rfl rfl) trivial) rfl fun _ => ?_
    refine aD (ax (q := 5) J rfl rfl rfl rfl rfl rfl rfl rfl rfl) rfl ?_
    rintro _ rD _ ⟨i2, _⟩
    have i2 : HS _ _ _ [_, _, _, _, _, [(bt.b, .cells [(iI s.top.code.params), (iI s.top.code.regs), (.slice ba s.top.code.blocks.length bk), (.slice ra s.top.regs.length rk), (.slice aa s.top.args.length ak), (iI (s.top.code.blocks.getD s.top.blk.toNat default).tgt), (iI s.top.at_), (iI s.top.to_)] none false)], _, _, _, _] _ := i2
    refine wRo 2 7 [] 31 32 [] [(32, (.pointer (some ⟨bt.b, 6, none⟩)))] trivial rfl fun _ => ?_
    refine aD (ax (q := 5) i2 rfl rfl rfl rfl rfl rfl rfl rfl rfl) rfl ?_
    rintro _ rE _ ⟨i3, _⟩
    have i3 : HS _ _ _ [_, _, _, _, _, [(bt.b, .cells [(iI s.top.code.params), (iI s.top.code.regs), (.slice ba s.top.code.blocks.length bk), (.slice ra s.top.regs.length rk), (.slice aa s.top.args.length ak), (iI (s.top.code.blocks.getD s.top.blk.toNat default).tgt), (iI 0), (iI s.top.to_)] none false)], _, _, _, _] _ := i3
    refine ai 1 rfl ?_
    exact am ⟨.inl rfl, _, rfl, rfl, RunP.mk (bt := bt) (L := [E, ec]) (by (try subst hq_vx); unfold bz; dsimp only [f3, gc, cC]; (repeat (first | rw [if_pos (by omega)] | rw [if_neg (by omega)] | rw [if_pos hlow] | rw [if_neg hlow] | (unfold cM; dsimp only [goT, aB]) | (unfold fC; dsimp only [aB]) | (unfold ge; dsimp only [cO, aB]) | (unfold eR; dsimp only [cO, aB]) | (unfold cH; dsimp only [aB]))); first | done | rfl | rw [hmap]) i3 fR T y2 y3 y4 V y7 U x2 Z⟩
   ·
    try simp only [BS] at lA
    refine wR 1 [] 33 34 [] [(33, (.bool ((s.top.code.blocks.getD s.top.blk.toNat default).fin == 2)))] trivial rfl fun _ => ?_
    refine aj 2 1 (v := ((s.top.code.blocks.getD s.top.blk.toNat default).fin == 2)) rfl rfl rfl rfl (fun lB => ?_) (fun lB => ?_)
    ·
     try simp only [BS] at lB
     refine wR 1 [(2, .o (iI (s.top.code.blocks.getD s.top.blk.toNat default).reg)), (3, .o (iI (bo s.top.regs (s.top.code.blocks.getD s.top.blk.toNat default).reg)))] 35 39 [] [(39, (.bool (bo s.top.regs (s.top.code.blocks.getD s.top.blk.toNat default).reg != 0)))] (vA (ql 3 2 (HS.hc J (i := 9) rfl) rfl rfl) (vA (ic.fb ex s.top.regs (s.top.code.blocks.getD s.top.blk.toNat default).reg hT (HS.hc J (i := 5) rfl) (OS.sv x2 J (i := 6) rfl) (by omega) (by omega)) trivial)) rfl fun _ => ?_
     refine aj 0 0 (v := (bo s.top.regs (s.top.code.blocks.getD s.top.blk.toNat default).reg != 0)) rfl rfl rfl rfl (fun lC => ?_) (fun lC => ?_)
     ·
      try simp only [BS] at lC
      refine ab ?_
      refine wRo 5 0 [(2, .o (iI (s.top.code.blocks.getD s.top.blk.toNat default).tgt))] 40 44 [] [(42, (iI (s.top.code.blocks.getD s.top.blk.toNat default).tgt)), (44, (.pointer (some ⟨bt.b, 5, none⟩)))] (vA (ql 3 3 (HS.hc J (i := 9) rfl) rfl rfl) trivial) rfl fun _ => ?_
      refine aD (ax (q := 5) J rfl rfl rfl rfl rfl rfl rfl rfl rfl) rfl ?_
      rintro _ rF _ ⟨jb, _⟩
      have jb : HS _ _ _ [_, _, _, _, _, [(bt.b, .cells [(iI s.top.code.params), (iI s.top.code.regs), (.slice ba s.top.code.blocks.length bk), (.slice ra s.top.regs.length rk), (.slice aa s.top.args.length ak), (iI (s.top.code.blocks.getD s.top.blk.toNat default).tgt), (iI s.top.at_), (iI s.top.to_)] none false)], _, _, _, _] _ := jb
      refine ai 1 rfl ?_
      refine ab ?_
      refine wRo 3 0 [] 50 52 [] [(52, (.pointer (some ⟨bt.b, 6, none⟩)))] trivial rfl fun _ => ?_
      refine aD (ax (q := 5) jb rfl rfl rfl rfl rfl rfl rfl rfl rfl) rfl ?_
      rintro _ rG _ ⟨jq, _⟩
      have jq : HS _ _ _ [_, _, _, _, _, [(bt.b, .cells [(iI s.top.code.params), (iI s.top.code.regs), (.slice ba s.top.code.blocks.length bk), (.slice ra s.top.regs.length rk), (.slice aa s.top.args.length ak), (iI (s.top.code.blocks.getD s.top.blk.toNat default).tgt), (iI 0), (iI s.top.to_)] none false)], _, _, _, _] _ := jq
      refine ai 1 rfl ?_
      exact am ⟨.inl rfl, _, rfl, rfl, RunP.mk (bt := bt) (L := [E, ec]) (by (try subst hq_vx); unfold bz; dsimp only [f3, gc, cC]; (repeat (first | rw [if_pos (by omega)] | rw [if_neg (by omega)] | rw [if_pos hlow] | rw [if_neg hlow] | (unfold cM; dsimp only [goT, aB]) | (unfold fC; dsimp only [aB]) | (unfold ge; dsimp only [cO, aB]) | (unfold eR; dsimp only [cO, aB]) | (unfold cH; dsimp only [aB]))); first | done | rfl | rw [hmap]) jq fR T y2 y3 y4 V y7 U x2 Z⟩
     ·
      try simp only [BS] at lC
      refine ab ?_
      refine wRo 5 0 [(2, .o (iI (s.top.code.blocks.getD s.top.blk.toNat default).els))] 45 49 [] [(47, (iI (s.top.code.blocks.getD s.top.blk.toNat default).els)), (49, (.pointer (some ⟨bt.b, 5, none⟩)))] (vA (ql 3 4 (HS.hc J (i := 9) rfl) rfl rfl) trivial) rfl fun _ => ?_
      refine aD (ax (q := 5) J rfl rfl rfl rfl rfl rfl rfl rfl rfl) rfl ?_
      rintro _ rH _ ⟨j0, _⟩
      have j0 : HS _ _ _ [_, _, _, _, _, [(bt.b, .cells [(iI s.top.code.params), (iI s.top.code.regs), (.slice ba s.top.code.blocks.length bk), (.slice ra s.top.regs.length rk), (.slice aa s.top.args.length ak), (iI (s.top.code.blocks.getD s.top.blk.toNat default).els), (iI s.top.at_), (iI s.top.to_)] none false)], _, _, _, _] _ := j0
      refine ai 1 rfl ?_
      refine ab ?_
      refine wRo 3 0 [] 50 52 [] [(52, (.pointer (some ⟨bt.b, 6, none⟩)))] trivial rfl fun _ => ?_
      refine aD (ax (q := 5) j0 rfl rfl rfl rfl rfl rfl rfl rfl rfl) rfl ?_
      rintro _ rI _ ⟨j1, _⟩
      have j1 : HS _ _ _ [_, _, _, _, _, [(bt.b, .cells [(iI s.top.code.params), (iI s.top.code.regs), (.slice ba s.top.code.blocks.length bk), (.slice ra s.top.regs.length rk), (.slice aa s.top.args.length ak), (iI (s.top.code.blocks.getD s.top.blk.toNat default).els), (iI 0), (iI s.top.to_)] none false)], _, _, _, _] _ := j1
      refine ai 1 rfl ?_
      exact am ⟨.inl rfl, _, rfl, rfl, RunP.mk (bt := bt) (L := [E, ec]) (by (try subst hq_vx); unfold bz; dsimp only [f3, gc, cC]; (repeat (first | rw [if_pos (by omega)] | rw [if_neg (by omega)] | rw [if_pos hlow] | rw [if_neg hlow] | (unfold cM; dsimp only [goT, aB]) | (unfold fC; dsimp only [aB]) | (unfold ge; dsimp only [cO, aB]) | (unfold eR; dsimp only [cO, aB]) | (unfold cH; dsimp only [aB]))); first | done | rfl | rw [hmap]) j1 fR T y2 y3 y4 V y7 U x2 Z⟩
    ·
     try simp only [BS] at lB
     refine wR 1 [] 53 54 [] [(53, (.bool ((s.top.code.blocks.getD s.top.blk.toNat default).fin == 3)))] trivial rfl fun _ => ?_
     refine aj 1 0 (v := ((s.top.code.blocks.getD s.top.blk.toNat default).fin == 3)) rfl rfl rfl rfl (fun lD => ?_) (fun lD => ?_)
     ·
      try simp only [BS] at lD
      refine wR 3 [(2, .o (iI (s.top.code.blocks.getD s.top.blk.toNat default).reg)), (3, .o (iI (bo s.top.regs (s.top.code.blocks.getD s.top.blk.toNat default).reg)))] 55 58 [5] [(5, (iI (bo s.top.regs (s.top.code.blocks.getD s.top.blk.toNat default).reg)))] (vA (ql 3 2 (HS.hc J (i := 9) rfl) rfl rfl) (vA (ic.fb ex s.top.regs (s.top.code.blocks.getD s.top.blk.toNat default).reg hT (HS.hc J (i := 5) rfl) (OS.sv x2 J (i := 6) rfl) (by omega) (by omega)) trivial)) rfl fun _ => ?_
      refine wR 1 [(3, .o (.slice pa (ps ++ [bt]).length pk))] 59 64 [] [(64, (.bool (((ps ++ [bt]).length : Int) == 1)))] (vA (ql 110 2 (HS.hc J (i := 0) rfl) rfl rfl) trivial) rfl fun _ => ?_
      refine aj 1 2 (v := (((ps ++ [bt]).length : Int) == 1)) rfl rfl rfl rfl (fun lE => ?_) (fun lE => ?_)
      ·
       try simp only [BS] at lE
       have hlow : s.low = [] := List.eq_nil_of_length_eq_zero (by omega)
       refine ab ?_
       refine wRo 2 0 [] 65 66 [] [(65, (.pointer (some ⟨b, 0, none⟩))), (66, (iI (bo s.top.regs (s.top.code.blocks.getD s.top.blk.toNat default).reg)))] trivial rfl fun _ => ?_
       refine aC (aw rfl rfl rfl) rfl rfl (jO ex (1) (0) (bo s.top.regs (s.top.code.blocks.getD s.top.blk.toNat default).reg) (HS.callOwn J (i := 0) rfl)) ?_
       rintro _ rJ ⟨hn, rfl⟩
       replace hn := HS.backOwn J (i := 0) rfl rfl (fun _ hb => hb) hn
       have hn : HS _ _ _ [[(b, .cells [(.slice la P.length lk), (.slice ca hd.length ck), (.slice pa (ps ++ [bt]).length pk), (iI s.fuel), (.bool true), (iI 1), (iI 0), (.slice oa s.out.length ok), (iI (bo s.top.regs (s.top.code.blocks.getD s.top.blk.toNat default).reg))] none false)], pc, pr, pp, pl, [(bt.b, .cells [(iI s.top.code.params), (iI s.top.code.regs), (.slice ba s.top.code.blocks.length bk), (.slice ra s.top.regs.length rk), (.slice aa s.top.args.length ak), (iI s.top.blk), (iI s.top.at_), (iI s.top.to_)] none false)], pg, po, E, ec] _ := hn
       refine ai 1 rfl ?_
       exact ah ⟨.inr rfl, _, rfl, rfl, RunP.mk (bt := bt) (L := [E, ec]) (by (try subst hq_vx); unfold bz; dsimp only [f3, gc, cC]; (repeat (first | rw [if_pos (by omega)] | rw [if_neg (by omega)] | rw [if_pos hlow] | rw [if_neg hlow] | (unfold cM; dsimp only [goT, aB]) | (unfold fC; dsimp only [aB]) | (unfold ge; dsimp only [cO, aB]) | (unfold eR; dsimp only [cO, aB]) | (unfold cH; dsimp only [aB]))); first | done | rfl | rw [hmap]) hn fR T y2 y3 y4 V (by exact hgr _) U x2 Z⟩
      ·
       try simp only [BS] at lE
       have hlow : s.low ≠ [] := fun e => by have := congrArg List.length e; simp only [List.length_nil] at this; omega
       refine aG rfl ?_
       refine fm (.pointer (some ⟨b, 0, none⟩)) rfl rfl rfl ?_
       refine fm (.pointer (some ⟨b, 0, none⟩)) rfl rfl rfl ?_
       refine wfv (v := (.pointer (some ⟨b, 0, none⟩))) (bB rfl) ?_
       refine wfv (v := (.pointer (some ⟨b, 2, none⟩))) (aR rfl rfl) ?_
       refine au (v := (.slice pa (ps ++ [bt]).length pk)) (id := .l b) (aA (i := 2) rfl rfl (HS.hc J.log0 (i := 0) rfl) rfl rfl) rfl rfl (aL rfl) (kb rfl) ?_
       refine fm (.pointer (some ⟨b, 0, none⟩)) rfl rfl rfl ?_
       refine wfv (v := (.pointer (some ⟨b, 0, none⟩))) (bB rfl) ?_
       refine wfv (v := (.pointer (some ⟨b, 2, none⟩))) (aR rfl rfl) ?_
       refine au (v := (.slice pa (ps ++ [bt]).length pk)) (id := .l b) (aA (i := 2) rfl rfl (HS.hc J.log0 (i := 0) rfl) rfl rfl) rfl rfl (aL rfl) (kb rfl) ?_
       refine au (v := (iI ((ps ++ [bt]).length : Int))) (id := .v) (kT (α := PtrT) rfl rfl (OS.sv y3 J.log0 (i := 3) rfl)) rfl rfl (kI rfl) (okD_v _) ?_
       refine wfv (v := (iI (((ps ++ [bt]).length : Int) - 1))) (ap_sub rfl rfl (km (n := ((ps ++ [bt]).length : Int) - 1) (by omega))) ?_
       refine dJ (id := .r) (kB (α := PtrT) (j := (((ps ++ [bt]).length : Int) - 1).toNat) y3 J.log0 (q := 3) rfl rfl rfl rfl (optN (by omega)) (by omega)) rfl rfl (by rintro _ _ _ ⟨_, _, _, hH, _⟩; simp only at hH; subst hH; exact did_r fun b hb => absurd hb List.not_mem_nil) (kb rfl) ?_
       rintro _ _ _ ⟨hm, hu, rfl, hy, e6⟩ o0 mC
       simp only at hy; replace hy := hy.symm; subst hy
       have j2 := HS.lg J.log0 J mC
       generalize ({ { hT with log := [] } with log := o0 } : Heap) = qM at j2 ⊢
       refine wfv (v := (.pointer (some ⟨b, 0, none⟩))) (bB rfl) ?_
       refine wfv (v := (.pointer (some ⟨b, 2, none⟩))) (aR rfl rfl) ?_
       refine ed (id := .x [b]) (ax (q := 0) j2.log0 rfl rfl rfl rfl rfl rfl rfl rfl rfl) rfl (by rintro _ _ _ ⟨_, hwr⟩; exact cE rfl rfl (Wr.did hwr)) (kb rfl) ?_
       rintro _ pj _ ⟨g6, _⟩ o1 mD
       replace g6 := HS.lg g6 j2 mD
       generalize ({ pj with log := o1 } : Heap) = qN at g6 ⊢
       have g6 : HS _ _ _ [[(b, .cells [(.slice la P.length lk), (.slice ca hd.length ck), (.slice hm ((ps ++ [bt]).take (((ps ++ [bt]).length : Int) - 1).toNat).length hu), (iI s.fuel), (.bool s.over), (iI s.kind), (iI s.code), (.slice oa s.out.length ok), (iI s.val)] none false)], _, _, _, _, _, _, _, _, _] _ := g6
       refine bw ?_
       refine ao 1 rfl ?_
       obtain ⟨a8, a0, me, oo, k6, k7, oq, sa, ot, k4, rY, k5, e2, hsW, z4, z1, z2, z3⟩ := pool_pop y4 hlow g6 rfl
       obtain rfl := OS.nlen z2; have oX := SR.len' z3; subst oX
       have e3 : (ps ++ [bt]).take (((ps ++ [bt]).length : Int) - 1).toNat = a8 ++ [a0] := (take_last (by omega)).trans e2
       rw [e3] at hsW e6
       have rf : (a8 ++ [a0]).length = a8.length + 1 := by simp
       have rh := congrArg List.length e2
       have r4 := (wf.low _ (last_mem hlow)).regs
       let kt : Fp := [(b, .cells [(.slice la P.length lk), (.slice ca hd.length ck), (.slice hm (a8 ++ [a0]).length hu), (iI s.fuel), (.bool s.over), (iI s.kind), (iI s.code), (.slice oa s.out.length ok), (iI s.val)] none false)]
       have hsW : HS _ _ _ [kt, pc, pr, pp, me, [(bt.b, .cells [(iI s.top.code.params), (iI s.top.code.regs), (.slice ba s.top.code.blocks.length bk), (.slice ra s.top.regs.length rk), (.slice aa s.top.args.length ak), (iI s.top.blk), (iI s.top.at_), (iI s.top.to_)] none false)], pg, po, E, ec, [(a0.b, .cells [(iI (s.low.getLastD default).code.params), (iI (s.low.getLastD default).code.regs), (.slice k6 (s.low.getLastD default).code.blocks.length k7), (.slice oq (s.low.getLastD default).regs.length ot), (.slice k4 (s.low.getLastD default).args.length k5), (iI (s.low.getLastD default).blk), (iI (s.low.getLastD default).at_), (iI (s.low.getLastD default).to_)] none false)], oo] _ := hsW
       refine aG rfl ?_
       refine fm (.pointer (some ⟨b, 0, none⟩)) rfl rfl rfl ?_
       refine wfv (v := (.pointer (some ⟨b, 0, none⟩))) (bB rfl) ?_
       refine wfv (v := (.pointer (some ⟨b, 2, none⟩))) (aR rfl rfl) ?_
       refine au (v := (.slice hm (a8 ++ [a0]).length hu)) (id := .l b) (aA (i := 2) rfl rfl (HS.hc hsW.log0 (i := 0) rfl) rfl rfl) rfl rfl (aL rfl) (kb rfl) ?_
       refine fm (.pointer (some ⟨b, 0, none⟩)) rfl rfl rfl ?_
       refine wfv (v := (.pointer (some ⟨b, 0, none⟩))) (bB rfl) ?_
       refine wfv (v := (.pointer (some ⟨b, 2, none⟩))) (aR rfl rfl) ?_
       refine au (v := (.slice hm (a8 ++ [a0]).length hu)) (id := .l b) (aA (i := 2) rfl rfl (HS.hc hsW.log0 (i := 0) rfl) rfl rfl) rfl rfl (aL rfl) (kb rfl) ?_
       refine au (v := (iI ((a8 ++ [a0]).length : Int))) (id := .v) (kT (α := PtrT) rfl rfl (OS.sv e6 hsW.log0 (i := 3) rfl)) rfl rfl (kI rfl) (okD_v _) ?_
       refine wfv (v := (iI (((a8 ++ [a0]).length : Int) - 1))) (ap_sub rfl rfl (km (n := ((a8 ++ [a0]).length : Int) - 1) (by omega))) ?_
       refine wfv (v := (.pointer (some ⟨sB (.slice hm (a8 ++ [a0]).length hu), sO (.slice hm (a8 ++ [a0]).length hu) + (((a8 ++ [a0]).length : Int) - 1).toNat * Rp.sz PtrT, none⟩))) (bd (α := PtrT) (j := ((a8 ++ [a0]).length : Int) - 1) rfl rfl rfl rfl (OS.sv e6 hsW.log0 (i := 3) rfl) (by omega) (by omega)) ?_
       obtain ⟨q0, oU⟩ := Sv.view (OS.sv e6 hsW.log0 (i := 3) rfl)
       refine au (v := (.pointer (some ⟨a0.b, 0, none⟩))) (id := .l (sB (.slice hm (a8 ++ [a0]).length hu))) (aA (i := 0) rfl rfl (hcq (show ((a8 ++ [a0]).getD (((a8 ++ [a0]).length : Int) - 1).toNat default) = a0 from by exact last_get (by omega)) (vP (oU (((a8 ++ [a0]).length : Int) - 1).toNat) (by omega))) rfl rfl) rfl rfl (aL rfl) (kb rfl) ?_
       refine fm (.pointer (some ⟨bt.b, 0, none⟩)) rfl rfl rfl ?_
       refine wfv (v := (.pointer (some ⟨bt.b, 0, none⟩))) (bB rfl) ?_
       refine wfv (v := (.pointer (some ⟨bt.b, 7, none⟩))) (aR rfl rfl) ?_
       refine au (v := (iI s.top.to_)) (id := .l bt.b) (aA (i := 7) rfl rfl (HS.hc hsW.log0 (i := 5) rfl) rfl rfl) rfl rfl (aL rfl) (kb rfl) ?_
       refine fm (iI (bo s.top.regs (s.top.code.blocks.getD s.top.blk.toNat default).reg)) rfl rfl rfl ?_
       refine bg (W := ((([(a0.b, .cells [(iI (s.low.getLastD default).code.params), (iI (s.low.getLastD default).code.regs), (.slice k6 (s.low.getLastD default).code.blocks.length k7), (.slice oq (s.low.getLastD default).regs.length ot), (.slice k4 (s.low.getLastD default).args.length k5), (iI (s.low.getLastD default).blk), (iI (s.low.getLastD default).at_), (iI (s.low.getLastD default).to_)] none false)] : Fp) ++ oo).map Prod.fst)) (aw rfl rfl rfl) rfl rfl rfl (i0 ex (s.low.getLastD default).regs s.top.to_ (bo s.top.regs (s.top.code.blocks.getD s.top.blk.toNat default).reg) (HS.call2 hsW.log0 (i := 10) (j := 11) (by decide) rfl rfl) z2 (by omega) (by omega) (by exact hgr _)) (kb rfl) ?_
       rintro _ pm ⟨mg, mi, mh, mf, rz, em, d2, rfl, oQ⟩
       refine ⟨HS.didW d2, fun o2 mE => ?_⟩
       replace d2 := HS.back2 hsW.log0 (i := 10) (j := 11) (by decide) rfl rfl rfl (fun _ hb => hb) d2
       replace d2 := HS.lg d2 hsW mE
       generalize ({ pm with log := o2 } : Heap) = qO at d2 ⊢
       have d2 : HS _ _ _ [kt, pc, pr, pp, me, [(bt.b, .cells [(iI s.top.code.params), (iI s.top.code.regs), (.slice ba s.top.code.blocks.length bk), (.slice ra s.top.regs.length rk), (.slice aa s.top.args.length ak), (iI s.top.blk), (iI s.top.at_), (iI s.top.to_)] none false)], pg, po, E, ec, [(a0.b, .cells [(iI (s.low.getLastD default).code.params), (iI (s.low.getLastD default).code.regs), (.slice k6 (s.low.getLastD default).code.blocks.length k7), (.slice mg mi mh), (.slice k4 (s.low.getLastD default).args.length k5), (iI (s.low.getLastD default).blk), (iI (s.low.getLastD default).at_), (iI (s.low.getLastD default).to_)] none false)], mf] _ := d2
       replace e6 := e6.mono em
       replace T := T.mono em
       replace V := V.mono em
       replace z1 := z1.mono em
       replace z3 := z3.mono em
       replace y2 := SF.mono em y2
       replace z4 := FAM.mono (fun k => CR.mono em k) z4
       refine bw ?_
       refine ao 1 rfl ?_
       have m0 : HS _ _ _ [kt, pc, pr, pp, me, [(a0.b, .cells [(iI (s.low.getLastD default).code.params), (iI (s.low.getLastD default).code.regs), (.slice k6 (s.low.getLastD default).code.blocks.length k7), (.slice mg mi mh), (.slice k4 (s.low.getLastD default).args.length k5), (iI (s.low.getLastD default).blk), (iI (s.low.getLastD default).at_), (iI (s.low.getLastD default).to_)] none false)], mf, po, [(bt.b, .cells [(iI s.top.code.params), (iI s.top.code.regs), (.slice ba s.top.code.blocks.length bk), (.slice ra s.top.regs.length rk), (.slice aa s.top.args.length ak), (iI s.top.blk), (iI s.top.at_), (iI s.top.to_)] none false)], pg, E, ec] _ := HS.flat d2 (gJ [0, 1, 2, 3, 4, 10, 11, 7, 5, 6, 8, 9] rfl (show List.Perm [0, 1, 2, 3, 4, 10, 11, 7, 5, 6, 8, 9] (List.range 12) by decide))
       exact am ⟨.inl rfl, _, rfl, rfl, RunP.mk (bt := a0) (L := [[(bt.b, .cells [(iI s.top.code.params), (iI s.top.code.regs), (.slice ba s.top.code.blocks.length bk), (.slice ra s.top.regs.length rk), (.slice aa s.top.args.length ak), (iI s.top.blk), (iI s.top.at_), (iI s.top.to_)] none false)], pg, E, ec]) (by (try subst hq_vx); unfold bz; dsimp only [f3, gc, cC]; (repeat (first | rw [if_pos (by omega)] | rw [if_neg (by omega)] | rw [if_pos hlow] | rw [if_neg hlow] | (unfold cM; dsimp only [goT, aB]) | (unfold fC; dsimp only [aB]) | (unfold ge; dsimp only [cO, aB]) | (unfold eR; dsimp only [cO, aB]) | (unfold cH; dsimp only [aB]))); first | done | rfl | rw [hmap]) m0 (em) T y2 e6 z4 V y7 z1 oQ z3⟩
     ·
      try simp only [BS] at lD
      refine ab ?_
      refine wRo 3 0 [(2, .o (iI (s.top.code.blocks.getD s.top.blk.toNat default).tgt))] 19 21 [] [(19, (.pointer (some ⟨b, 0, none⟩))), (21, (iI (s.top.code.blocks.getD s.top.blk.toNat default).tgt))] (vA (ql 3 3 (HS.hc J (i := 9) rfl) rfl rfl) trivial) rfl fun _ => ?_
      refine aC (aw rfl rfl rfl) rfl rfl (jO ex (2) (s.top.code.blocks.getD s.top.blk.toNat default).tgt (0) (HS.callOwn J (i := 0) rfl)) ?_
      rintro _ rK ⟨ho, rfl⟩
      replace ho := HS.backOwn J (i := 0) rfl rfl (fun _ hb => hb) ho
      have ho : HS _ _ _ [[(b, .cells [(.slice la P.length lk), (.slice ca hd.length ck), (.slice pa (ps ++ [bt]).length pk), (iI s.fuel), (.bool true), (iI 2), (iI (s.top.code.blocks.getD s.top.blk.toNat default).tgt), (.slice oa s.out.length ok), (iI 0)] none false)], pc, pr, pp, pl, [(bt.b, .cells [(iI s.top.code.params), (iI s.top.code.regs), (.slice ba s.top.code.blocks.length bk), (.slice ra s.top.regs.length rk), (.slice aa s.top.args.length ak), (iI s.top.blk), (iI s.top.at_), (iI s.top.to_)] none false)], pg, po, E, ec] _ := ho
      refine ai 1 rfl ?_
      exact am ⟨.inl rfl, _, rfl, rfl, RunP.mk (bt := bt) (L := [E, ec]) (by (try subst hq_vx); unfold bz; dsimp only [f3, gc, cC]; (repeat (first | rw [if_pos (by omega)] | rw [if_neg (by omega)] | rw [if_pos hlow] | rw [if_neg hlow] | (unfold cM; dsimp only [goT, aB]) | (unfold fC; dsimp only [aB]) | (unfold ge; dsimp only [cO, aB]) | (unfold eR; dsimp only [cO, aB]) | (unfold cH; dsimp only [aB]))); first | done | rfl | rw [hmap]) ho fR T y2 y3 y4 V (by exact ⟨by decide, by decide⟩) U x2 Z⟩
  rintro _ rL ⟨rfl, lu⟩
  refine ai 1 rfl ?_
  exact ah ⟨.inr rfl, _, rfl, rfl, lu⟩
 ·
  try simp only [BS] at c9
  have hI : InF P nc s.top.code ((s.top.code.blocks.getD s.top.blk.toNat default).ins.getD s.top.at_.toNat default) := hC.inF hp c9
  have hia := hI.a; have hib := hI.b; have hic := hI.cc; have hiA := hI.args; have hiM := hI.mem; have hiP := hI.par; have hiC := hI.call; have hiL := hI.al
  refine aG rfl ?_
  refine wfv (v := (.pointer (some ⟨b5, 0, none⟩))) (aR rfl rfl) ?_
  refine au (v := (.slice e5 (s.top.code.blocks.getD s.top.blk.toNat default).ins.length f6)) (id := .l b5) (aA (i := 0) rfl rfl (HS.hc a7.log0 (i := 8) rfl) rfl rfl) rfl rfl (aL rfl) (kb rfl) ?_
  refine fm (.pointer (some ⟨bt.b, 0, none⟩)) rfl rfl rfl ?_
  refine wfv (v := (.pointer (some ⟨bt.b, 0, none⟩))) (bB rfl) ?_
  refine wfv (v := (.pointer (some ⟨bt.b, 6, none⟩))) (aR rfl rfl) ?_
  refine au (v := (iI s.top.at_)) (id := .l bt.b) (aA (i := 6) rfl rfl (HS.hc a7.log0 (i := 5) rfl) rfl rfl) rfl rfl (aL rfl) (kb rfl) ?_
  refine wfv (v := (.pointer (some ⟨sB (.slice e5 (s.top.code.blocks.getD s.top.blk.toNat default).ins.length f6), sO (.slice e5 (s.top.code.blocks.getD s.top.blk.toNat default).ins.length f6) + s.top.at_.toNat * Rp.sz VInT, none⟩))) (bd (α := VInT) (j := s.top.at_) rfl rfl rfl rfl (SR.sv mj a7.log0) (by omega) (by omega)) ?_
  obtain ⟨q3, oR, oI⟩ := Sv.at (SR.sv mj a7.log0) (aI (x := default) (show s.top.at_.toNat < (s.top.code.blocks.getD s.top.blk.toNat default).ins.length from by omega))
  obtain ⟨et, e4, rfl, qh, qi, qj, qk, qm, hl⟩ := oR
  refine au (v := (.agg ⟨[(iI ((s.top.code.blocks.getD s.top.blk.toNat default).ins.getD s.top.at_.toNat default).i.op), (iI ((s.top.code.blocks.getD s.top.blk.toNat default).ins.getD s.top.at_.toNat default).i.a), (iI ((s.top.code.blocks.getD s.top.blk.toNat default).ins.getD s.top.at_.toNat default).i.b), (iI ((s.top.code.blocks.getD s.top.blk.toNat default).ins.getD s.top.at_.toNat default).i.c), (iI ((s.top.code.blocks.getD s.top.blk.toNat default).ins.getD s.top.at_.toNat default).i.n), (.slice et ((s.top.code.blocks.getD s.top.blk.toNat default).ins.getD s.top.at_.toNat default).args.length e4)]⟩)) (id := .l (sB (.slice e5 (s.top.code.blocks.getD s.top.blk.toNat default).ins.length f6))) (fk (i := 0) rfl rfl rfl oI rfl rfl rfl) rfl rfl (aL rfl) (kb rfl) ?_
  refine dJ (id := .a) (bp a7.log0 rfl) rfl rfl (fun _ _ _ _ => gN rfl rfl rfl) (kb rfl) ?_
  rintro _ pq _ ⟨dk, rfl, fd, _⟩ o3 mF
  replace fd := HS.lg fd a7 mF
  generalize ({ pq with log := o3 } : Heap) = qP at fd ⊢
  have fd : HS _ _ _ [_, _, _, _, _, _, _, _, _, [(dk, .cells [(iI 0), (iI 0), (iI 0), (iI 0), (iI 0), (.slice none 0 0)] none false)]] _ := fd
  refine ed (id := .x [dk]) (ax (q := 9) fd.log0 rfl rfl rfl rfl rfl rfl rfl rfl rfl) rfl (by rintro _ _ _ ⟨_, hwr⟩; exact cE rfl rfl (Wr.did hwr)) (kb rfl) ?_
  rintro _ pt _ ⟨fi, _⟩ o4 mG
  replace fi := HS.lg fi fd mG
  generalize ({ pt with log := o4 } : Heap) = qQ at fi ⊢
  have fi : HS _ _ _ [_, _, _, _, _, _, _, _, _, [(dk, .cells [(iI ((s.top.code.blocks.getD s.top.blk.toNat default).ins.getD s.top.at_.toNat default).i.op), (iI ((s.top.code.blocks.getD s.top.blk.toNat default).ins.getD s.top.at_.toNat default).i.a), (iI ((s.top.code.blocks.getD s.top.blk.toNat default).ins.getD s.top.at_.toNat default).i.b), (iI ((s.top.code.blocks.getD s.top.blk.toNat default).ins.getD s.top.at_.toNat default).i.c), (iI ((s.top.code.blocks.getD s.top.blk.toNat default).ins.getD s.top.at_.toNat default).i.n), (.slice et ((s.top.code.blocks.getD s.top.blk.toNat default).ins.getD s.top.at_.toNat default).args.length e4)] none false)]] _ := fi
  refine bw ?_
  refine ao 2 rfl ?_
  generalize hq_vx : (s.top.code.blocks.getD s.top.blk.toNat default).ins.getD s.top.at_.toNat default = vx at *
  refine ab ?_
  refine wRo 7 0 [(3, .o (iI s.top.at_))] 50 56 [] [(54, (iI (s.top.at_ + 1))), (56, (.pointer (some ⟨bt.b, 6, none⟩)))] (vA (ql 3 6 (HS.hc fi (i := 5) rfl) rfl rfl) (vA (vi (n := s.top.at_ + 1) (by omega)) trivial)) rfl fun _ => ?_
  refine aD (ax (q := 5) fi rfl rfl rfl rfl rfl rfl rfl rfl rfl) rfl ?_
  rintro _ pu _ ⟨O, _⟩
  let A : Fp := [(dk, .cells [(iI vx.i.op), (iI vx.i.a), (iI vx.i.b), (iI vx.i.c), (iI vx.i.n), (.slice et vx.args.length e4)] none false)]
  have O : HS _ _ _ [dn, pc, pr, pp, pl, [(bt.b, .cells [(iI s.top.code.params), (iI s.top.code.regs), (.slice ba s.top.code.blocks.length bk), (.slice ra s.top.regs.length rk), (.slice aa s.top.args.length ak), (iI s.top.blk), (iI (s.top.at_ + 1)), (iI s.top.to_)] none false)], pg, po, E, A] _ := O
  refine ai 2 rfl ?_
  refine wR 3 [(2, .o (iI vx.i.op))] 57 59 [] [(59, (iI vx.i.op))] (vA (ql 3 0 (HS.hc O (i := 9) rfl) rfl rfl) trivial) rfl fun _ => ?_
  refine wR 1 [] 65 66 [] [(65, (.bool (vx.i.op == 3)))] trivial rfl fun _ => ?_
  refine aj 2 1 (v := (vx.i.op == 3)) rfl rfl rfl rfl (fun lF => ?_) (fun lF => ?_)
  ·
   try simp only [BS] at lF
   refine wR 1 [(3, .o (iI s.fuel))] 67 71 [] [(71, (.bool (s.fuel == 0)))] (vA (ql 3 3 (HS.hc O (i := 0) rfl) rfl rfl) trivial) rfl fun _ => ?_
   refine aj 1 1 (v := (s.fuel == 0)) rfl rfl rfl rfl (fun lG => ?_) (fun lG => ?_)
   ·
    try simp only [BS] at lG
    refine ab ?_
    refine wm (.pointer (some ⟨b, 0, none⟩)) rfl rfl rfl ?_
    refine aC (aw rfl rfl rfl) rfl rfl (jO ex (3) (0) (0) (HS.callOwn O (i := 0) rfl)) ?_
    rintro _ rM ⟨ht, rfl⟩
    replace ht := HS.backOwn O (i := 0) rfl rfl (fun _ hb => hb) ht
    have ht : HS _ _ _ [[(b, .cells [(.slice la P.length lk), (.slice ca hd.length ck), (.slice pa (ps ++ [bt]).length pk), (iI s.fuel), (.bool true), (iI 3), (iI 0), (.slice oa s.out.length ok), (iI 0)] none false)], pc, pr, pp, pl, [(bt.b, .cells [(iI s.top.code.params), (iI s.top.code.regs), (.slice ba s.top.code.blocks.length bk), (.slice ra s.top.regs.length rk), (.slice aa s.top.args.length ak), (iI s.top.blk), (iI (s.top.at_ + 1)), (iI s.top.to_)] none false)], pg, po, E, A] _ := ht
    refine ai 1 rfl ?_
    exact ah ⟨.inr rfl, _, rfl, rfl, RunP.mk (bt := bt) (L := [E, A]) (by (try subst hq_vx); unfold bz; dsimp only [f3, gc, cC]; (repeat (first | rw [if_pos (by omega)] | rw [if_neg (by omega)] | rw [if_pos hlow] | rw [if_neg hlow] | (unfold cM; dsimp only [goT, aB]) | (unfold fC; dsimp only [aB]) | (unfold ge; dsimp only [cO, aB]) | (unfold eR; dsimp only [cO, aB]) | (unfold cH; dsimp only [aB]))); first | done | rfl | rw [hmap]) ht fR T y2 y3 y4 V (by exact ⟨by decide, by decide⟩) U x2 Z⟩
   ·
    try simp only [BS] at lG
    refine ab ?_
    refine wRo 7 0 [(3, .o (iI s.fuel))] 74 80 [] [(78, (iI (s.fuel - 1))), (80, (.pointer (some ⟨b, 3, none⟩)))] (vA (ql 3 3 (HS.hc O (i := 0) rfl) rfl rfl) (vA (vi (n := s.fuel - 1) (by omega)) trivial)) rfl fun _ => ?_
    refine aD (ax (q := 0) O rfl rfl rfl rfl rfl rfl rfl rfl rfl) rfl ?_
    rintro _ rO _ ⟨kd, _⟩
    have kd : HS _ _ _ [[(b, .cells [(.slice la P.length lk), (.slice ca hd.length ck), (.slice pa (ps ++ [bt]).length pk), (iI (s.fuel - 1)), (.bool s.over), (iI s.kind), (iI s.code), (.slice oa s.out.length ok), (iI s.val)] none false)], _, _, _, _, _, _, _, _, _] _ := kd
    refine ai 1 rfl ?_
    exact am ⟨.inl rfl, _, rfl, rfl, RunP.mk (bt := bt) (L := [E, A]) (by (try subst hq_vx); unfold bz; dsimp only [f3, gc, cC]; (repeat (first | rw [if_pos (by omega)] | rw [if_neg (by omega)] | rw [if_pos hlow] | rw [if_neg hlow] | (unfold cM; dsimp only [goT, aB]) | (unfold fC; dsimp only [aB]) | (unfold ge; dsimp only [cO, aB]) | (unfold eR; dsimp only [cO, aB]) | (unfold cH; dsimp only [aB]))); first | done | rfl | rw [hmap]) kd fR T y2 y3 y4 V y7 U x2 Z⟩
  ·
   try simp only [BS] at lF
   refine wR 1 [] 81 82 [] [(81, (.bool (vx.i.op == 6)))] trivial rfl fun _ => ?_
   refine aj 1 1 (v := (vx.i.op == 6)) rfl rfl rfl rfl (fun lH => ?_) (fun lH => ?_)
   ·
    try simp only [BS] at lH
    have rc := hiC (by omega)
    refine aG rfl ?_
    refine fm (.pointer (some ⟨b, 0, none⟩)) rfl rfl rfl ?_
    refine wfv (v := (.pointer (some ⟨b, 0, none⟩))) (bB rfl) ?_
    refine wfv (v := (.pointer (some ⟨b, 0, none⟩))) (aR rfl rfl) ?_
    refine au (v := (.slice la P.length lk)) (id := .l b) (aA (i := 0) rfl rfl (HS.hc O.log0 (i := 0) rfl) rfl rfl) rfl rfl (aL rfl) (kb rfl) ?_
    refine wfv (v := (.pointer (some ⟨dk, 0, none⟩))) (aR rfl rfl) ?_
    refine wfv (v := (.pointer (some ⟨dk, 4, none⟩))) (aR rfl rfl) ?_
    refine au (v := (iI vx.i.n)) (id := .l dk) (aA (i := 4) rfl rfl (HS.hc O.log0 (i := 9) rfl) rfl rfl) rfl rfl (aL rfl) (kb rfl) ?_
    refine wfv (v := (.pointer (some ⟨sB (.slice la P.length lk), sO (.slice la P.length lk) + vx.i.n.toNat * Rp.sz VFnT, none⟩))) (bd (α := VFnT) (j := vx.i.n) rfl rfl rfl rfl (SR.sv hP O.log0) (by omega) (by omega)) ?_
    obtain ⟨q4, oS, oJ⟩ := Sv.at (SR.sv hP O.log0) (aI (x := default) (show vx.i.n.toNat < P.length from by omega))
    obtain ⟨ds, eb, rfl, qo, qp, g5⟩ := oS
    refine au (v := (.agg ⟨[(iI (P.getD vx.i.n.toNat default).params), (iI (P.getD vx.i.n.toNat default).regs), (.slice ds (P.getD vx.i.n.toNat default).blocks.length eb)]⟩)) (id := .l (sB (.slice la P.length lk))) (fk (i := 0) rfl rfl rfl oJ rfl rfl rfl) rfl rfl (aL rfl) (kb rfl) ?_
    refine wfv (v := (.pointer (some ⟨dk, 0, none⟩))) (aR rfl rfl) ?_
    refine wfv (v := (.pointer (some ⟨dk, 1, none⟩))) (aR rfl rfl) ?_
    refine au (v := (iI vx.i.a)) (id := .l dk) (aA (i := 1) rfl rfl (HS.hc O.log0 (i := 9) rfl) rfl rfl) rfl rfl (aL rfl) (kb rfl) ?_
    refine wfv (v := (.agg ⟨[(iI (P.getD vx.i.n.toNat default).params), (iI (P.getD vx.i.n.toNat default).regs), (.slice ds (P.getD vx.i.n.toNat default).blocks.length eb), (.slice none 0 0), (.slice none 0 0), (iI 0), (iI 0), (iI vx.i.a)]⟩)) (ap_bld rfl rfl (by kernel_rfl)) ?_
    refine dJ (id := .a) (b8 O.log0 rfl rfl) rfl rfl (fun _ _ _ _ => gN rfl rfl rfl) (kb rfl) ?_
    rintro _ pw _ ⟨a5, rfl, f1, _⟩ o5 mH
    replace f1 := HS.lg f1 O mH
    generalize ({ pw with log := o5 } : Heap) = qT at f1 ⊢
    have f1 : HS _ _ _ [_, _, _, _, _, _, _, _, _, _, [(a5, .cells [(iI (P.getD vx.i.n.toNat default).params), (iI (P.getD vx.i.n.toNat default).regs), (.slice ds (P.getD vx.i.n.toNat default).blocks.length eb), (.slice none 0 0), (.slice none 0 0), (iI 0), (iI 0), (iI vx.i.a)] none false)]] _ := f1
    refine fa (.pointer (some ⟨a5, 0, none⟩)) rfl rfl rfl ?_
    refine bw ?_
    refine ao 3 rfl ?_
    refine wR 2 [(1, .o (.slice et vx.args.length e4))] 97 100 [] [(98, (.slice et vx.args.length e4)), (99, (iI (vx.args.length : Int))), (100, (iI 0))] (vA (ql 25 5 (HS.hc f1 (i := 9) rfl) rfl rfl) trivial) rfl fun _ => ?_
    have ki := HS.snoc f1
    have ki : HS _ _ _ [_, _, _, _, _, _, _, _, _, _, _, []] _ := ki
    refine aE (fun (mm : Nat) f H' => ∃ (ag : List Int) (j : Nat) (a4 : Fp) (a2 : Option Addr) (a3 : Nat) (F' : Fz), Fz.le F F' ∧ HS (Base.of H (b :: q.map Prod.fst)) F' H' [dn, pc, pr, pp, pl, [(bt.b, .cells [(iI s.top.code.params), (iI s.top.code.regs), (.slice ba s.top.code.blocks.length bk), (.slice ra s.top.regs.length rk), (.slice aa s.top.args.length ak), (iI s.top.blk), (iI (s.top.at_ + 1)), (iI s.top.to_)] none false)], pg, po, E, A, [(a5, .cells [(iI (P.getD vx.i.n.toNat default).params), (iI (P.getD vx.i.n.toNat default).regs), (.slice ds (P.getD vx.i.n.toNat default).blocks.length eb), (.slice none 0 0), (.slice a2 ag.length a3), (iI 0), (iI 0), (iI vx.i.a)] none false)], a4] R ∧ OS F' (.slice a2 ag.length a3) ag a4 ∧ aS f [(0, (.pointer (some ⟨b, 0, none⟩))), (2, (.pointer (some ⟨bt.b, 0, none⟩))), (5, (.pointer (some ⟨a5, 0, none⟩))), (98, (.slice et vx.args.length e4)), (99, (iI (vx.args.length : Int))), (100, (iI (j : Int)))] ∧ mm = vx.args.length - j ∧ (ag = (vx.args.take j).map (bo s.top.regs)) ∧ (j ≤ vx.args.length)) _ ⟨([] : List Int), 0, [], none, 0, _, fR, ki, (OS.nil : OS F (.slice none 0 0) ([] : List Int) []), (agC rfl (agC rfl (agC rfl (agC rfl (agC rfl (agC rfl agN)))))), rfl, (by rfl), (by omega)⟩ ?_
    rintro ri r1 px ⟨ag, j, a4, a2, a3, rA, a9, ea, g4, lK, rfl, e, hj⟩ oW
    refine aF _ lK (fun _ => ?_)
    clear lK
    replace hl := hl.mono a9
    replace g5 := g5.mono a9
    replace U := U.mono a9
    replace x2 := x2.mono a9
    replace Z := Z.mono a9
    replace T := T.mono a9
    replace y3 := y3.mono a9
    replace V := V.mono a9
    replace y2 := SF.mono a9 y2
    replace y4 := FAM.mono (fun k => CR.mono a9 k) y4
    have hag : ag.length ≤ 6 := by rw [e, List.length_map, List.length_take]; omega
    have hga := hI.arg j
    refine ao 1 rfl ?_
    refine wR 2 [] 101 101 [] [(101, (.bool (decide ((j : Int) < (vx.args.length : Int)))))] trivial rfl fun _ => ?_
    refine aj 4 4 (v := (decide ((j : Int) < (vx.args.length : Int)))) rfl rfl rfl rfl (fun lI => ?_) (fun lI => ?_)
    ·
     try simp only [BS] at lI
     obtain ⟨q1, l8⟩ := Sv.view (SR.sv hl ea)
     have r3 := fI (l8 j)
     refine wR 1 [(1, .o (iI (vx.args.getD j 0)))] 102 103 [7] [(7, (iI (vx.args.getD j 0)))] (vA (Sv.ix (j := (j : Int)) (SR.sv hl ea) (by omega) (by omega)) (vA (ql 3 0 (vI (l8 j) (by omega)) rfl rfl) trivial)) rfl fun _ => ?_
     refine aG rfl ?_
     refine fm (.pointer (some ⟨a5, 0, none⟩)) rfl rfl rfl ?_
     refine fm (.pointer (some ⟨a5, 0, none⟩)) rfl rfl rfl ?_
     refine wfv (v := (.pointer (some ⟨a5, 0, none⟩))) (bB rfl) ?_
     refine wfv (v := (.pointer (some ⟨a5, 4, none⟩))) (aR rfl rfl) ?_
     refine au (v := (.slice a2 ag.length a3)) (id := .l a5) (aA (i := 4) rfl rfl (HS.hc ea.log0 (i := 10) rfl) rfl rfl) rfl rfl (aL rfl) (kb rfl) ?_
     refine fm (.pointer (some ⟨bt.b, 0, none⟩)) rfl rfl rfl ?_
     refine fm (iI (vx.args.getD j 0)) rfl rfl rfl ?_
     refine bg (W := []) (aw rfl rfl rfl) rfl rfl rfl (ic.jH ex s.top.regs (vx.args.getD j 0) _ (HS.hc ea.log0 (i := 5) rfl) (OS.sv x2 ea.log0 (i := 6) rfl) (by omega) (by omega)) (⟨.inl rfl, ⟨.inl rfl, ⟨.inr List.not_mem_nil, ⟨.inr trivial, ⟨.inr trivial, ⟨.inr trivial, ⟨.inr trivial, trivial⟩⟩⟩⟩⟩⟩⟩) ?_
     rintro _ _ ⟨r8, rfl, rfl, rfl⟩
     refine ⟨fun b hb => absurd hb List.not_mem_nil, fun o6 mI => ?_⟩
     have kk := HS.lg ea.log0 ea mI
     generalize ({ { px with log := [] } with log := o6 } : Heap) = qU at kk ⊢
     refine dJ (id := .a) (bZ (α := Int) (ps := [(0, (iI (bo s.top.regs (vx.args.getD j 0))))]) (cells := [(iI (bo s.top.regs (vx.args.getD j 0)))]) ([bo s.top.regs (vx.args.getD j 0)] : List Int) kk.log0 rfl rfl rfl (by kernel_rfl) ⟨[(iI (bo s.top.regs (vx.args.getD j 0)))], [], rfl, ⟨rfl, by exact hgr _⟩, rfl⟩ rfl) rfl rfl (fun _ _ _ _ => gN rfl rfl rfl) (kb rfl) ?_
     rintro _ py pM ⟨rV, r5, rfl, oM, es, _⟩ o7 mJ
     replace es := HS.lg es kk mJ
     generalize ({ py with log := o7 } : Heap) = qV at es ⊢
     have es : HS _ _ _ [_, _, _, _, _, _, _, _, _, _, [(a5, .cells [(iI (P.getD vx.i.n.toNat default).params), (iI (P.getD vx.i.n.toNat default).regs), (.slice ds (P.getD vx.i.n.toNat default).blocks.length eb), (.slice none 0 0), (.slice a2 ag.length a3), (iI 0), (iI 0), (iI vx.i.a)] none false)], a4, pM] _ := es
     refine dJ (id := .x (a4.map Prod.fst)) (cT (α := Int) (q := 11) g4 es.log0 rfl rfl rfl (OS.sv oM es.log0 (i := 12) rfl) rfl rfl rfl rfl rfl rfl rfl (by (simp only [List.length_cons, List.length_nil]; omega))) rfl rfl (by rintro _ _ mc ⟨lx, ma, rfl, l7, _, hwr⟩; exact cE rfl rfl (Wr.did hwr)) (kb rfl) ?_
     rintro _ pz mc ⟨lx, ma, rfl, l7, f2, _⟩ o8 mK
     replace f2 := HS.lg f2 es mK
     generalize ({ pz with log := o8 } : Heap) = qW at f2 ⊢
     have f2 : HS _ _ _ [_, _, _, _, _, _, _, _, _, _, _, mc, _] _ := f2
     refine wfv (v := (.pointer (some ⟨a5, 0, none⟩))) (bB rfl) ?_
     refine wfv (v := (.pointer (some ⟨a5, 4, none⟩))) (aR rfl rfl) ?_
     refine ed (id := .x [a5]) (ax (q := 10) f2.log0 rfl rfl rfl rfl rfl rfl rfl rfl rfl) rfl (by rintro _ _ _ ⟨_, hwr⟩; exact cE rfl rfl (Wr.did hwr)) (kb rfl) ?_
     rintro _ pA _ ⟨g7, _⟩ o9 mL
     replace g7 := HS.lg g7 f2 mL
     generalize ({ pA with log := o9 } : Heap) = qX at g7 ⊢
     have g7 : HS _ _ _ [_, _, _, _, _, _, _, _, _, _, [(a5, .cells [(iI (P.getD vx.i.n.toNat default).params), (iI (P.getD vx.i.n.toNat default).regs), (.slice ds (P.getD vx.i.n.toNat default).blocks.length eb), (.slice none 0 0), (.slice lx (ag ++ ([bo s.top.regs (vx.args.getD j 0)] : List Int)).length ma), (iI 0), (iI 0), (iI vx.i.a)] none false)], _, _] _ := g7
     refine bw ?_
     refine ao 2 rfl ?_
     refine wR 1 [] 100 100 [116] [(100, (iI ((j : Int) + 1)))] (vA (vi (n := (j : Int) + 1) (by omega)) trivial) rfl fun _ => ?_
     refine oW _ _ _ ?_ ⟨ag ++ ([bo s.top.regs (vx.args.getD j 0)] : List Int), j + 1, mc, lx, ma, _, (a9), (HS.sub g7 (List.sublist_append_left _ _)), l7, (agC rfl (agC rfl (agC rfl (agC rfl (agC rfl (agC rfl agN)))))), rfl, (by exact kE e (by omega)), (by omega)⟩
     omega
    ·
     try simp only [BS] at lI
     have hmap := map_all e (by omega)
     refine ab ?_
     refine wRo 6 0 [(4, .o (.slice pa (ps ++ [bt]).length pk))] 117 122 [] [(117, (.pointer (some ⟨b, 0, none⟩))), (121, (.slice pa (ps ++ [bt]).length pk)), (122, (.pointer (some ⟨a5, 0, none⟩)))] (vA (ql 110 2 (HS.hc ea (i := 0) rfl) rfl rfl) trivial) rfl fun _ => ?_
     refine aP (bZ (α := PtrT) (ps := [(0, (.pointer (some ⟨a5, 0, none⟩)))]) (cells := [(.pointer (some ⟨a5, 0, none⟩))]) ([(⟨a5⟩ : PtrT)] : List PtrT) ea rfl rfl rfl (by kernel_rfl) ⟨[(.pointer (some ⟨a5, 0, none⟩))], [], rfl, rfl, rfl⟩ rfl) rfl rfl ?_
     rintro _ rR lq ⟨rW, r6, rfl, oN, hM, _⟩
     let kv : Fp := [(a5, .cells [(iI (P.getD vx.i.n.toNat default).params), (iI (P.getD vx.i.n.toNat default).regs), (.slice ds (P.getD vx.i.n.toNat default).blocks.length eb), (.slice none 0 0), (.slice a2 ag.length a3), (iI 0), (iI 0), (iI vx.i.a)] none false)]
     have hM : HS _ _ _ [_, _, _, _, _, _, _, _, _, _, kv, a4, lq] _ := hM
     refine aP (cT (α := PtrT) (q := 3) y3 hM rfl rfl rfl (OS.sv oN hM (i := 12) rfl) rfl rfl rfl rfl rfl rfl rfl (by (simp only [List.length_append, List.length_cons, List.length_nil]; omega))) rfl rfl ?_
     rintro _ rS md ⟨pB, pJ, rfl, ii, kl, _⟩
     have kl : HS _ _ _ [_, _, _, md, _, _, _, _, _, _, _, _, _] _ := kl
     refine wRo 2 8 [] 125 126 [] [(126, (.pointer (some ⟨b, 2, none⟩)))] trivial rfl fun _ => ?_
     refine aD (ax (q := 0) kl rfl rfl rfl rfl rfl rfl rfl rfl rfl) rfl ?_
     rintro _ rU _ ⟨kn, _⟩
     let k0 : Fp := [(b, .cells [(.slice la P.length lk), (.slice ca hd.length ck), (.slice pB ((ps ++ [bt]) ++ ([(⟨a5⟩ : PtrT)] : List PtrT)).length pJ), (iI s.fuel), (.bool s.over), (iI s.kind), (iI s.code), (.slice oa s.out.length ok), (iI s.val)] none false)]
     have kn : HS _ _ _ [k0, _, _, _, _, _, _, _, _, _, _, _, _] _ := kn
     refine ai 1 rfl ?_
     obtain ⟨rB, dd, kp, oT, re⟩ := OS.frz g4 kn (i := 11) rfl
     have kp : HS _ _ _ [_, _, _, _, _, _, _, _, _, _, _, [], _] _ := kp
     replace ii := ii.mono dd
     replace g5 := g5.mono dd
     replace U := U.mono dd
     replace x2 := x2.mono dd
     replace Z := Z.mono dd
     replace T := T.mono dd
     replace V := V.mono dd
     replace y2 := SF.mono dd y2
     replace y4 := FAM.mono (fun k => CR.mono dd k) y4
     obtain ⟨lr, qZ, hQ, mN⟩ := pool_push (⟨⟨s.top.code.params, s.top.code.regs, s.top.code.blocks⟩, s.top.regs, s.top.args, s.top.blk, (s.top.at_ + 1), s.top.to_⟩ : CalT) y4 kp rfl rfl rfl U x2 Z
     have hQ : HS _ _ _ [k0, pc, pr, md, lr, [], [], po, E, A, kv, [], lq] _ := hQ
     have na : HS _ _ _ [k0, pc, pr, md, lr, kv, [], po, [], E, A, [], lq] _ := HS.flat hQ (gJ [0, 1, 2, 3, 4, 10, 6, 7, 5, 8, 9, 11, 12] rfl (show List.Perm [0, 1, 2, 3, 4, 10, 6, 7, 5, 8, 9, 11, 12] (List.range 13) by decide))
     exact am ⟨.inl rfl, _, rfl, rfl, RunP.mk (bt := ⟨a5⟩) (L := [[], E, A, [], lq]) (by (try subst hq_vx); unfold bz; dsimp only [f3, gc, cC]; (repeat (first | rw [if_pos (by omega)] | rw [if_neg (by omega)] | rw [if_pos hlow] | rw [if_neg hlow] | (unfold cM; dsimp only [goT, aB]) | (unfold fC; dsimp only [aB]) | (unfold ge; dsimp only [cO, aB]) | (unfold eR; dsimp only [cO, aB]) | (unfold cH; dsimp only [aB]))); first | done | rfl | rw [hmap]) na (fT (a9) dd) T y2 ii mN V y7 g5 OS.nil oT⟩
   ·
    try simp only [BS] at lH
    refine wR 1 [] 127 128 [] [(127, (.bool (vx.i.op == 9)))] trivial rfl fun _ => ?_
    refine aj 0 2 (v := (vx.i.op == 9)) rfl rfl rfl rfl (fun lJ => ?_) (fun lJ => ?_)
    ·
     try simp only [BS] at lJ
     refine aG rfl ?_
     refine fm (.pointer (some ⟨b, 0, none⟩)) rfl rfl rfl ?_
     refine fm (.pointer (some ⟨b, 0, none⟩)) rfl rfl rfl ?_
     refine wfv (v := (.pointer (some ⟨b, 0, none⟩))) (bB rfl) ?_
     refine wfv (v := (.pointer (some ⟨b, 5, none⟩))) (aR rfl rfl) ?_
     refine wfv (v := (.pointer (some ⟨b, 7, none⟩))) (aR rfl rfl) ?_
     refine au (v := (.slice oa s.out.length ok)) (id := .l b) (aA (i := 7) rfl rfl (HS.hc O.log0 (i := 0) rfl) rfl rfl) rfl rfl (aL rfl) (kb rfl) ?_
     refine fm (.pointer (some ⟨bt.b, 0, none⟩)) rfl rfl rfl ?_
     refine wfv (v := (.pointer (some ⟨dk, 0, none⟩))) (aR rfl rfl) ?_
     refine wfv (v := (.pointer (some ⟨dk, 1, none⟩))) (aR rfl rfl) ?_
     refine au (v := (iI vx.i.a)) (id := .l dk) (aA (i := 1) rfl rfl (HS.hc O.log0 (i := 9) rfl) rfl rfl) rfl rfl (aL rfl) (kb rfl) ?_
     refine bg (W := []) (aw rfl rfl rfl) rfl rfl rfl (ic.jH ex s.top.regs vx.i.a _ (HS.hc O.log0 (i := 5) rfl) (OS.sv x2 O.log0 (i := 6) rfl) (by omega) (by omega)) (⟨.inl rfl, ⟨.inl rfl, ⟨.inl rfl, ⟨.inl rfl, ⟨.inr List.not_mem_nil, ⟨.inr trivial, ⟨.inr trivial, ⟨.inr trivial, ⟨.inr trivial, ⟨.inr trivial, trivial⟩⟩⟩⟩⟩⟩⟩⟩⟩⟩) ?_
     rintro _ _ ⟨r9, rfl, rfl, rfl⟩
     refine ⟨fun b hb => absurd hb List.not_mem_nil, fun pb mM => ?_⟩
     have kr := HS.lg O.log0 O mM
     generalize ({ { pu with log := [] } with log := pb } : Heap) = qY at kr ⊢
     refine dJ (id := .a) (bZ (α := Int) (ps := [(0, (iI (bo s.top.regs vx.i.a)))]) (cells := [(iI (bo s.top.regs vx.i.a))]) ([bo s.top.regs vx.i.a] : List Int) kr.log0 rfl rfl rfl (by kernel_rfl) ⟨[(iI (bo s.top.regs vx.i.a))], [], rfl, ⟨rfl, by exact hgr _⟩, rfl⟩ rfl) rfl rfl (fun _ _ _ _ => gN rfl rfl rfl) (kb rfl) ?_
     rintro _ ou om ⟨rX, r7, rfl, oO, c7, _⟩ ne lL
     replace c7 := HS.lg c7 kr lL
     generalize ({ ou with log := ne } : Heap) = pO at c7 ⊢
     have c7 : HS _ _ _ [_, _, _, _, _, _, _, _, _, _, om] _ := c7
     refine dJ (id := .x (po.map Prod.fst)) (cT (α := Int) (q := 7) V c7.log0 rfl rfl rfl (OS.sv oO c7.log0 (i := 10) rfl) rfl rfl rfl rfl rfl rfl rfl (by (simp only [List.length_cons, List.length_nil]; omega))) rfl rfl (by rintro _ _ mb ⟨lw, l9, rfl, lm, _, hwr⟩; exact cE rfl rfl (Wr.did hwr)) (kb rfl) ?_
     rintro _ ov mb ⟨lw, l9, rfl, lm, dt, _⟩ ng lM
     replace dt := HS.lg dt c7 lM
     generalize ({ ov with log := ng } : Heap) = pP at dt ⊢
     have dt : HS _ _ _ [_, _, _, _, _, _, _, mb, _, _, _] _ := dt
     refine wfv (v := (.pointer (some ⟨b, 0, none⟩))) (bB rfl) ?_
     refine wfv (v := (.pointer (some ⟨b, 5, none⟩))) (aR rfl rfl) ?_
     refine wfv (v := (.pointer (some ⟨b, 7, none⟩))) (aR rfl rfl) ?_
     refine ed (id := .x [b]) (ax (q := 0) dt.log0 rfl rfl rfl rfl rfl rfl rfl rfl rfl) rfl (by rintro _ _ _ ⟨_, hwr⟩; exact cE rfl rfl (Wr.did hwr)) (kb rfl) ?_
     rintro _ ow _ ⟨e1, _⟩ nh lN
     replace e1 := HS.lg e1 dt lN
     generalize ({ ow with log := nh } : Heap) = pQ at e1 ⊢
     have e1 : HS _ _ _ [[(b, .cells [(.slice la P.length lk), (.slice ca hd.length ck), (.slice pa (ps ++ [bt]).length pk), (iI s.fuel), (.bool s.over), (iI s.kind), (iI s.code), (.slice lw (s.out ++ ([bo s.top.regs vx.i.a] : List Int)).length l9), (iI s.val)] none false)], _, _, _, _, _, _, _, _, _, _] _ := e1
     refine bw ?_
     refine ao 1 rfl ?_
     exact am ⟨.inl rfl, _, rfl, rfl, RunP.mk (bt := bt) (L := [E, A, om]) (by (try subst hq_vx); unfold bz; dsimp only [f3, gc, cC]; (repeat (first | rw [if_pos (by omega)] | rw [if_neg (by omega)] | rw [if_pos hlow] | rw [if_neg hlow] | (unfold cM; dsimp only [goT, aB]) | (unfold fC; dsimp only [aB]) | (unfold ge; dsimp only [cO, aB]) | (unfold eR; dsimp only [cO, aB]) | (unfold cH; dsimp only [aB]))); first | done | rfl | rw [hmap]) e1 fR T y2 y3 y4 lm y7 U x2 Z⟩
    ·
     try simp only [BS] at lJ
     refine wR 1 [] 145 146 [] [(145, (.bool (vx.i.op == 34)))] trivial rfl fun _ => ?_
     refine aj 1 0 (v := (vx.i.op == 34)) rfl rfl rfl rfl (fun ez => ?_) (fun ez => ?_)
     ·
      have hW := ez
      try simp only [BS] at hW
      refine aX 0 (v := (vx.i.op == 34)) rfl ez rfl rfl ?_
      refine ab ?_
      let ml : Value := (.agg ⟨[(iI vx.i.op), (iI vx.i.a), (iI vx.i.b), (iI vx.i.c), (iI vx.i.n)]⟩)
      refine wRo 4 0 [(3, .o ml)] 148 151 [] [(148, (.pointer (some ⟨b, 0, none⟩))), (149, (.pointer (some ⟨bt.b, 0, none⟩))), (151, ml)] (vA (qn 45 0 5 (HS.hc O (i := 9) rfl) rfl rfl rfl rfl) trivial) rfl fun _ => ?_
      refine aC (R := fun w' H' => w' = .tuple #[] ∧ RunP (.of H (b :: q.map Prod.fst)) F R P la lk b (bz P s) H') (aw rfl rfl rfl) rfl rfl ?_ ?_
      ·
       refine aJ Tryd.func88 rfl rfl ?_
       refine ao 1 rfl ?_
       refine ab ?_
       refine aP (b8 O rfl rfl) rfl rfl ?_
       rintro _ lv _ ⟨hV, rfl, dv, _⟩
       let hv : Fp := [(hV, .cells [(iI vx.i.op), (iI vx.i.a), (iI vx.i.b), (iI vx.i.c), (iI vx.i.n)] none false)]
       have dv : HS _ _ _ [_, _, _, _, _, _, _, _, _, _, hv] _ := dv
       refine ai 2 rfl ?_
       obtain ⟨hx, g9, a1, bl, k9⟩ := SF.open y2 dv (q := 2) (i := vx.i.n.toNat) rfl (by omega)
       have a1 : HS _ _ _ [_, _, hx, _, _, _, _, _, _, _, _, g9] _ := a1
       have bl : OS F (.slice (hd.getD vx.i.n.toNat default).a (hd.getD vx.i.n.toNat default).n (hd.getD vx.i.n.toNat default).k) (s.cells.getD vx.i.n.toNat default) g9 := bl
       have qq := OS.nlen bl
       refine wRD 3 [(2, .o (iI vx.i.n)), (5, .o (iI vx.i.b)), (6, .o (iI (bo s.top.regs vx.i.b))), (7, .o (.pointer (cellA (hd.getD vx.i.n.toNat default) (bo s.top.regs vx.i.b))))] 7 14 [6] [(6, (.pointer (cellA (hd.getD vx.i.n.toNat default) (bo s.top.regs vx.i.b))))] (vA (ql 2 4 (hc0 (HS.hc dv (i := 10) rfl)) rfl rfl) (vA (ql 3 2 (hc0 (HS.hc dv (i := 10) rfl)) rfl rfl) (vA (ic.fb ex s.top.regs vx.i.b { lv with log := [] } (hc0 (HS.hc dv (i := 5) rfl)) (sv0 (OS.sv x2 dv (i := 6) rfl)) (by omega) (by omega)) (vA (ic.cell_c_q ex hd (s.cells.getD vx.i.n.toNat default) vx.i.n (bo s.top.regs vx.i.b) { lv with log := [] } (hc0 (HS.hc a1 (i := 0) rfl)) (sv0 (OS.sv T a1 (i := 1) rfl)) (sv0 (OS.sv bl a1 (i := 11) rfl)) (by omega) (by exact aZ wf.rows _)) trivial)))) rfl rfl fun _ => ?_
       by_cases hb : 0 ≤ bo s.top.regs vx.i.b ∧ bo s.top.regs vx.i.b < ((hd.getD vx.i.n.toNat default).n : Int)
       ·
        rw [cell_in hb]
        refine wR 1 [] 21 23 [] [(21, (.bool false))] trivial rfl fun _ => ?_
        refine wk_iff 1 (v := false) rfl rfl rfl rfl ?_
        refine wR 1 [(1, .o (iI vx.i.op))] 26 29 [] [(26, (.bool (vx.i.op == 34)))] (vA (ql 3 0 (HS.hc a1 (i := 10) rfl) rfl rfl) trivial) rfl fun _ => ?_
        refine aX 0 (v := (vx.i.op == 34)) rfl ez rfl rfl ?_
        refine aG rfl ?_
        refine fm (.pointer (some ⟨bt.b, 0, none⟩)) rfl rfl rfl ?_
        refine wfv (v := (.pointer (some ⟨hV, 1, none⟩))) (aR rfl rfl) ?_
        refine au (v := (iI vx.i.a)) (id := .l hV) (aA (i := 1) rfl rfl (HS.hc a1.log0 (i := 10) rfl) rfl rfl) rfl rfl (aL rfl) (kb rfl) ?_
        refine fm (.pointer (some ⟨sB (.slice (hd.getD vx.i.n.toNat default).a (hd.getD vx.i.n.toNat default).n (hd.getD vx.i.n.toNat default).k), sO (.slice (hd.getD vx.i.n.toNat default).a (hd.getD vx.i.n.toNat default).n (hd.getD vx.i.n.toNat default).k) + (bo s.top.regs vx.i.b).toNat * Rp.sz Int, none⟩)) rfl rfl rfl ?_
        refine wfv (v := (.pointer (some ⟨sB (.slice (hd.getD vx.i.n.toNat default).a (hd.getD vx.i.n.toNat default).n (hd.getD vx.i.n.toNat default).k), sO (.slice (hd.getD vx.i.n.toNat default).a (hd.getD vx.i.n.toNat default).n (hd.getD vx.i.n.toNat default).k) + (bo s.top.regs vx.i.b).toNat * Rp.sz Int, none⟩))) (bB rfl) ?_
        obtain ⟨p7, mO, my⟩ := Sv.at (OS.sv bl a1.log0 (i := 11) rfl) (aI (x := (0 : Int)) (show (bo s.top.regs vx.i.b).toNat < (s.cells.getD vx.i.n.toNat default).length from by omega))
        obtain ⟨rfl, pD⟩ := mO
        refine au (v := (iI ((s.cells.getD vx.i.n.toNat default).getD (bo s.top.regs vx.i.b).toNat 0))) (id := .l (sB (.slice (hd.getD vx.i.n.toNat default).a (hd.getD vx.i.n.toNat default).n (hd.getD vx.i.n.toNat default).k))) (aA (i := 0) rfl rfl my rfl rfl) rfl rfl (aL rfl) (kb rfl) ?_
        refine bg (W := ((([(bt.b, .cells [(iI s.top.code.params), (iI s.top.code.regs), (.slice ba s.top.code.blocks.length bk), (.slice ra s.top.regs.length rk), (.slice aa s.top.args.length ak), (iI s.top.blk), (iI (s.top.at_ + 1)), (iI s.top.to_)] none false)] : Fp) ++ pg).map Prod.fst)) (aw rfl rfl rfl) rfl rfl rfl (i0 ex s.top.regs vx.i.a ((s.cells.getD vx.i.n.toNat default).getD (bo s.top.regs vx.i.b).toNat 0) (HS.call2 a1.log0 (i := 5) (j := 6) (by decide) rfl rfl) x2 (by omega) (by omega) (by omega)) (kb rfl) ?_
        rintro _ ox ⟨nN, n8, nX, nD, qt, bb, b0, rfl, mP⟩
        refine ⟨HS.didW b0, fun ni lO => ?_⟩
        replace b0 := HS.back2 a1.log0 (i := 5) (j := 6) (by decide) rfl rfl rfl (fun _ hb => hb) b0
        replace b0 := HS.lg b0 a1 lO
        generalize ({ ox with log := ni } : Heap) = pR at b0 ⊢
        have b0 : HS _ _ _ [dn, pc, hx, pp, pl, [(bt.b, .cells [(iI s.top.code.params), (iI s.top.code.regs), (.slice ba s.top.code.blocks.length bk), (.slice nN n8 nX), (.slice aa s.top.args.length ak), (iI s.top.blk), (iI (s.top.at_ + 1)), (iI s.top.to_)] none false)], nD, po, E, A, hv, g9] _ := b0
        replace bl := bl.mono bb
        replace U := U.mono bb
        replace Z := Z.mono bb
        replace T := T.mono bb
        replace y3 := y3.mono bb
        replace V := V.mono bb
        replace y4 := FAM.mono (fun k => CR.mono bb k) y4
        refine bw ?_
        refine ao 1 rfl ?_
        obtain ⟨mu, hz, lf⟩ := SF.shut0 k9 (bb) b0 (q := 2) (m := 11) (by decide) rfl rfl bl
        have hz : HS _ _ _ [_, _, mu, _, _, _, _, _, _, _, _, []] _ := hz
        have p9 := FAM.len lf
        exact am ⟨.inl rfl, _, rfl, rfl, RunP.mk (bt := bt) (L := [E, A, hv, []]) (by (try subst hq_vx); unfold bz; dsimp only [f3, gc, cC]; (repeat (first | rw [if_pos (by omega)] | rw [if_neg (by omega)] | rw [if_pos hlow] | rw [if_neg hlow] | (unfold cM; dsimp only [goT, aB]) | (unfold fC; dsimp only [aB]) | (unfold ge; dsimp only [cO, aB]) | (unfold eR; dsimp only [cO, aB]) | (unfold cH; dsimp only [aB]))); first | done | rfl | rw [hmap]) hz (bb) T lf y3 y4 V y7 U mP Z⟩
       ·
        rw [kN hb]
        refine wR 1 [] 21 23 [] [(21, (.bool true))] trivial rfl fun _ => ?_
        refine aX 0 (v := true) rfl rfl rfl rfl ?_
        refine ab ?_
        refine wm (.pointer (some ⟨b, 0, none⟩)) rfl rfl rfl ?_
        refine aC (aw rfl rfl rfl) rfl rfl (jO ex (2) (2) (0) (HS.callOwn a1 (i := 0) rfl)) ?_
        rintro _ qD ⟨f7, rfl⟩
        replace f7 := HS.backOwn a1 (i := 0) rfl rfl (fun _ hb => hb) f7
        have f7 : HS _ _ _ [[(b, .cells [(.slice la P.length lk), (.slice ca hd.length ck), (.slice pa (ps ++ [bt]).length pk), (iI s.fuel), (.bool true), (iI 2), (iI 2), (.slice oa s.out.length ok), (iI 0)] none false)], pc, hx, pp, pl, [(bt.b, .cells [(iI s.top.code.params), (iI s.top.code.regs), (.slice ba s.top.code.blocks.length bk), (.slice ra s.top.regs.length rk), (.slice aa s.top.args.length ak), (iI s.top.blk), (iI (s.top.at_ + 1)), (iI s.top.to_)] none false)], pg, po, E, A, hv, g9] _ := f7
        refine ai 1 rfl ?_
        obtain ⟨mv, hA, lh⟩ := SF.shut0 k9 fR f7 (q := 2) (m := 11) (by decide) rfl rfl bl
        have hA : HS _ _ _ [_, _, mv, _, _, _, _, _, _, _, _, []] _ := hA
        have qa := FAM.len lh
        exact am ⟨.inl rfl, _, rfl, rfl, RunP.mk (bt := bt) (L := [E, A, hv, []]) (by (try subst hq_vx); unfold bz; dsimp only [f3, gc, cC]; (repeat (first | rw [if_pos (by omega)] | rw [if_neg (by omega)] | rw [if_pos hlow] | rw [if_neg hlow] | (unfold cM; dsimp only [goT, aB]) | (unfold fC; dsimp only [aB]) | (unfold ge; dsimp only [cO, aB]) | (unfold eR; dsimp only [cO, aB]) | (unfold cH; dsimp only [aB]))); first | done | rfl | rw [hmap]) hA fR T lh y3 y4 V (by exact ⟨by decide, by decide⟩) U x2 Z⟩
      rintro _ qE ⟨rfl, ik⟩
      refine ai 1 rfl ?_
      exact am ⟨.inl rfl, _, rfl, rfl, ik⟩
     ·
      have hW := ez
      try simp only [BS] at hW
      refine wR 1 [] 145 147 [] [(145, (.bool (vx.i.op == 35)))] trivial rfl fun _ => ?_
      refine aj 0 0 (v := (vx.i.op == 35)) rfl rfl rfl rfl (fun hX => ?_) (fun hX => ?_)
      ·
       try simp only [BS] at hX
       refine ab ?_
       let mn : Value := (.agg ⟨[(iI vx.i.op), (iI vx.i.a), (iI vx.i.b), (iI vx.i.c), (iI vx.i.n)]⟩)
       refine wRo 4 0 [(3, .o mn)] 148 151 [] [(148, (.pointer (some ⟨b, 0, none⟩))), (149, (.pointer (some ⟨bt.b, 0, none⟩))), (151, mn)] (vA (qn 45 0 5 (HS.hc O (i := 9) rfl) rfl rfl rfl rfl) trivial) rfl fun _ => ?_
       refine aC (R := fun w' H' => w' = .tuple #[] ∧ RunP (.of H (b :: q.map Prod.fst)) F R P la lk b (bz P s) H') (aw rfl rfl rfl) rfl rfl ?_ ?_
       ·
        refine aJ Tryd.func88 rfl rfl ?_
        refine ao 1 rfl ?_
        refine ab ?_
        refine aP (b8 O rfl rfl) rfl rfl ?_
        rintro _ hS _ ⟨oG, rfl, d1, _⟩
        let hR : Fp := [(oG, .cells [(iI vx.i.op), (iI vx.i.a), (iI vx.i.b), (iI vx.i.c), (iI vx.i.n)] none false)]
        have d1 : HS _ _ _ [_, _, _, _, _, _, _, _, _, _, hR] _ := d1
        refine ai 2 rfl ?_
        obtain ⟨k8, hw, a6, e0, ld⟩ := SF.open y2 d1 (q := 2) (i := vx.i.n.toNat) rfl (by omega)
        have a6 : HS _ _ _ [_, _, k8, _, _, _, _, _, _, _, _, hw] _ := a6
        have e0 : OS F (.slice (hd.getD vx.i.n.toNat default).a (hd.getD vx.i.n.toNat default).n (hd.getD vx.i.n.toNat default).k) (s.cells.getD vx.i.n.toNat default) hw := e0
        have qr := OS.nlen e0
        refine wRD 3 [(2, .o (iI vx.i.n)), (5, .o (iI vx.i.b)), (6, .o (iI (bo s.top.regs vx.i.b))), (7, .o (.pointer (cellA (hd.getD vx.i.n.toNat default) (bo s.top.regs vx.i.b))))] 7 14 [6] [(6, (.pointer (cellA (hd.getD vx.i.n.toNat default) (bo s.top.regs vx.i.b))))] (vA (ql 2 4 (hc0 (HS.hc d1 (i := 10) rfl)) rfl rfl) (vA (ql 3 2 (hc0 (HS.hc d1 (i := 10) rfl)) rfl rfl) (vA (ic.fb ex s.top.regs vx.i.b { hS with log := [] } (hc0 (HS.hc d1 (i := 5) rfl)) (sv0 (OS.sv x2 d1 (i := 6) rfl)) (by omega) (by omega)) (vA (ic.cell_c_q ex hd (s.cells.getD vx.i.n.toNat default) vx.i.n (bo s.top.regs vx.i.b) { hS with log := [] } (hc0 (HS.hc a6 (i := 0) rfl)) (sv0 (OS.sv T a6 (i := 1) rfl)) (sv0 (OS.sv e0 a6 (i := 11) rfl)) (by omega) (by exact aZ wf.rows _)) trivial)))) rfl rfl fun _ => ?_
        by_cases hb : 0 ≤ bo s.top.regs vx.i.b ∧ bo s.top.regs vx.i.b < ((hd.getD vx.i.n.toNat default).n : Int)
        ·
         rw [cell_in hb]
         refine wR 1 [] 21 23 [] [(21, (.bool false))] trivial rfl fun _ => ?_
         refine wk_iff 1 (v := false) rfl rfl rfl rfl ?_
         refine wR 1 [(1, .o (iI vx.i.op))] 26 29 [] [(26, (.bool (vx.i.op == 34)))] (vA (ql 3 0 (HS.hc a6 (i := 10) rfl) rfl rfl) trivial) rfl fun _ => ?_
         refine wk_iff 0 (v := (vx.i.op == 34)) rfl ez rfl rfl ?_
         refine ab ?_
         refine wRo 6 0 [(3, .o (iI vx.i.a)), (4, .o (iI (bo s.top.regs vx.i.a)))] 15 20 [] [(19, (iI (bo s.top.regs vx.i.a))), (20, (.pointer (some ⟨sB (.slice (hd.getD vx.i.n.toNat default).a (hd.getD vx.i.n.toNat default).n (hd.getD vx.i.n.toNat default).k), sO (.slice (hd.getD vx.i.n.toNat default).a (hd.getD vx.i.n.toNat default).n (hd.getD vx.i.n.toNat default).k) + (bo s.top.regs vx.i.b).toNat * Rp.sz Int, none⟩)))] (vA (ql 3 1 (HS.hc a6 (i := 10) rfl) rfl rfl) (vA (ic.fb ex s.top.regs vx.i.a hS (HS.hc a6 (i := 5) rfl) (OS.sv x2 a6 (i := 6) rfl) (by omega) (by omega)) trivial)) rfl fun _ => ?_
         refine aD (de (α := Int) (j := (bo s.top.regs vx.i.b).toNat) (off := 0) (q := 11) (bo s.top.regs vx.i.a) e0 a6 rfl rfl rfl rfl rfl rfl rfl rfl (aI (x := (0 : Int)) (by omega)) rfl (by rintro cs ⟨rfl, _⟩; exact ⟨Nat.le_of_ble_eq_true rfl, rfl, by exact hgr _⟩)) rfl ?_
         rintro _ qF pd ⟨ln, hB, _⟩
         have hB : HS _ _ _ [_, _, _, _, _, _, _, _, _, _, _, pd] _ := hB
         have pG := OS.len' ln
         refine ai 1 rfl ?_
         obtain ⟨mw, hD, lj⟩ := SF.shut ld fR hB (q := 2) (m := 11) (by decide) rfl rfl ln
         have hD : HS _ _ _ [_, _, mw, _, _, _, _, _, _, _, _, []] _ := hD
         have qb := FAM.len lj
         exact am ⟨.inl rfl, _, rfl, rfl, RunP.mk (bt := bt) (L := [E, A, hR, []]) (by (try subst hq_vx); unfold bz; dsimp only [f3, gc, cC]; (repeat (first | rw [if_pos (by omega)] | rw [if_neg (by omega)] | rw [if_pos hlow] | rw [if_neg hlow] | (unfold cM; dsimp only [goT, aB]) | (unfold fC; dsimp only [aB]) | (unfold ge; dsimp only [cO, aB]) | (unfold eR; dsimp only [cO, aB]) | (unfold cH; dsimp only [aB]))); first | done | rfl | rw [hmap]) hD fR T lj y3 y4 V y7 U x2 Z⟩
        ·
         rw [kN hb]
         refine wR 1 [] 21 23 [] [(21, (.bool true))] trivial rfl fun _ => ?_
         refine aX 0 (v := true) rfl rfl rfl rfl ?_
         refine ab ?_
         refine wm (.pointer (some ⟨b, 0, none⟩)) rfl rfl rfl ?_
         refine aC (aw rfl rfl rfl) rfl rfl (jO ex (2) (2) (0) (HS.callOwn a6 (i := 0) rfl)) ?_
         rintro _ qG ⟨f9, rfl⟩
         replace f9 := HS.backOwn a6 (i := 0) rfl rfl (fun _ hb => hb) f9
         have f9 : HS _ _ _ [[(b, .cells [(.slice la P.length lk), (.slice ca hd.length ck), (.slice pa (ps ++ [bt]).length pk), (iI s.fuel), (.bool true), (iI 2), (iI 2), (.slice oa s.out.length ok), (iI 0)] none false)], pc, k8, pp, pl, [(bt.b, .cells [(iI s.top.code.params), (iI s.top.code.regs), (.slice ba s.top.code.blocks.length bk), (.slice ra s.top.regs.length rk), (.slice aa s.top.args.length ak), (iI s.top.blk), (iI (s.top.at_ + 1)), (iI s.top.to_)] none false)], pg, po, E, A, hR, hw] _ := f9
         refine ai 1 rfl ?_
         obtain ⟨mx, hE, ll⟩ := SF.shut0 ld fR f9 (q := 2) (m := 11) (by decide) rfl rfl e0
         have hE : HS _ _ _ [_, _, mx, _, _, _, _, _, _, _, _, []] _ := hE
         have qc := FAM.len ll
         exact am ⟨.inl rfl, _, rfl, rfl, RunP.mk (bt := bt) (L := [E, A, hR, []]) (by (try subst hq_vx); unfold bz; dsimp only [f3, gc, cC]; (repeat (first | rw [if_pos (by omega)] | rw [if_neg (by omega)] | rw [if_pos hlow] | rw [if_neg hlow] | (unfold cM; dsimp only [goT, aB]) | (unfold fC; dsimp only [aB]) | (unfold ge; dsimp only [cO, aB]) | (unfold eR; dsimp only [cO, aB]) | (unfold cH; dsimp only [aB]))); first | done | rfl | rw [hmap]) hE fR T ll y3 y4 V (by exact ⟨by decide, by decide⟩) U x2 Z⟩
       rintro _ qH ⟨rfl, iv⟩
       refine ai 1 rfl ?_
       exact am ⟨.inl rfl, _, rfl, rfl, iv⟩
      ·
       try simp only [BS] at hX
       refine ab ?_
       let mo : Value := (.agg ⟨[(iI vx.i.op), (iI vx.i.a), (iI vx.i.b), (iI vx.i.c), (iI vx.i.n)]⟩)
       refine wRo 4 0 [(3, .o mo)] 60 63 [] [(60, (.pointer (some ⟨b, 0, none⟩))), (61, (.pointer (some ⟨bt.b, 0, none⟩))), (63, mo)] (vA (qn 45 0 5 (HS.hc O (i := 9) rfl) rfl rfl rfl rfl) trivial) rfl fun _ => ?_
       refine aC (R := fun w' H' => w' = .tuple #[] ∧ RunP (.of H (b :: q.map Prod.fst)) F R P la lk b (bz P s) H') (aw rfl rfl rfl) rfl rfl ?_ ?_
       ·
        refine aJ Tryd.func89 rfl rfl ?_
        refine ao 1 rfl ?_
        refine ab ?_
        refine aP (b8 O rfl rfl) rfl rfl ?_
        rintro _ c8 _ ⟨I, rfl, z, _⟩
        let av : Fp := [(I, .cells [(iI vx.i.op), (iI vx.i.a), (iI vx.i.b), (iI vx.i.c), (iI vx.i.n)] none false)]
        have z : HS _ _ _ [_, _, _, _, _, _, _, _, _, _, av] _ := z
        refine ai 2 rfl ?_
        refine wR 3 [(1, .o (iI vx.i.op))] 7 8 [] [(8, (iI vx.i.op))] (vA (ql 3 0 (HS.hc z (i := 10) rfl) rfl rfl) trivial) rfl fun _ => ?_
        refine wR 1 [] 41 42 [] [(41, (.bool (vx.i.op == 10)))] trivial rfl fun _ => ?_
        refine aj 0 1 (v := (vx.i.op == 10)) rfl rfl rfl rfl (fun hY => ?_) (fun hY => ?_)
        ·
         try simp only [BS] at hY
         refine aG rfl ?_
         refine fm (.pointer (some ⟨bt.b, 0, none⟩)) rfl rfl rfl ?_
         refine wfv (v := (.pointer (some ⟨I, 1, none⟩))) (aR rfl rfl) ?_
         refine au (v := (iI vx.i.a)) (id := .l I) (aA (i := 1) rfl rfl (HS.hc z.log0 (i := 10) rfl) rfl rfl) rfl rfl (aL rfl) (kb rfl) ?_
         refine fm (.pointer (some ⟨bt.b, 0, none⟩)) rfl rfl rfl ?_
         refine wfv (v := (.pointer (some ⟨I, 2, none⟩))) (aR rfl rfl) ?_
         refine au (v := (iI vx.i.b)) (id := .l I) (aA (i := 2) rfl rfl (HS.hc z.log0 (i := 10) rfl) rfl rfl) rfl rfl (aL rfl) (kb rfl) ?_
         refine bg (W := []) (aw rfl rfl rfl) rfl rfl rfl (ic.jH ex s.top.regs vx.i.b _ (HS.hc z.log0 (i := 5) rfl) (OS.sv x2 z.log0 (i := 6) rfl) (by omega) (by omega)) (⟨.inl rfl, ⟨.inl rfl, ⟨.inl rfl, ⟨.inr List.not_mem_nil, ⟨.inr trivial, ⟨.inr trivial, trivial⟩⟩⟩⟩⟩⟩) ?_
         rintro _ _ ⟨rj, rfl, rfl, rfl⟩
         refine ⟨fun b hb => absurd hb List.not_mem_nil, fun nj lP => ?_⟩
         have ha := HS.lg z.log0 z lP
         generalize ({ { c8 with log := [] } with log := nj } : Heap) = pS at ha ⊢
         refine bg (W := ((([(bt.b, .cells [(iI s.top.code.params), (iI s.top.code.regs), (.slice ba s.top.code.blocks.length bk), (.slice ra s.top.regs.length rk), (.slice aa s.top.args.length ak), (iI s.top.blk), (iI (s.top.at_ + 1)), (iI s.top.to_)] none false)] : Fp) ++ pg).map Prod.fst)) (aw rfl rfl rfl) rfl rfl rfl (i0 ex s.top.regs vx.i.a (bo s.top.regs vx.i.b) (HS.call2 ha.log0 (i := 5) (j := 6) (by decide) rfl rfl) x2 (by omega) (by omega) (by exact hgr _)) (kb rfl) ?_
         rintro _ oy ⟨nO, n9, nY, nE, qu, ch, b1, rfl, mQ⟩
         refine ⟨HS.didW b1, fun nk lQ => ?_⟩
         replace b1 := HS.back2 ha.log0 (i := 5) (j := 6) (by decide) rfl rfl rfl (fun _ hb => hb) b1
         replace b1 := HS.lg b1 ha lQ
         generalize ({ oy with log := nk } : Heap) = pT at b1 ⊢
         have b1 : HS _ _ _ [dn, pc, pr, pp, pl, [(bt.b, .cells [(iI s.top.code.params), (iI s.top.code.regs), (.slice ba s.top.code.blocks.length bk), (.slice nO n9 nY), (.slice aa s.top.args.length ak), (iI s.top.blk), (iI (s.top.at_ + 1)), (iI s.top.to_)] none false)], nE, po, E, A, av] _ := b1
         replace U := U.mono ch
         replace Z := Z.mono ch
         replace T := T.mono ch
         replace y3 := y3.mono ch
         replace V := V.mono ch
         replace y2 := SF.mono ch y2
         replace y4 := FAM.mono (fun k => CR.mono ch k) y4
         refine bw ?_
         refine ao 1 rfl ?_
         exact am ⟨.inl rfl, _, rfl, rfl, RunP.mk (bt := bt) (L := [E, A, av]) (by (try subst hq_vx); unfold bz; dsimp only [f3, gc, cC]; (repeat (first | rw [if_pos (by omega)] | rw [if_neg (by omega)] | rw [if_pos hlow] | rw [if_neg hlow] | (unfold cM; dsimp only [goT, aB]) | (unfold fC; dsimp only [aB]) | (unfold ge; dsimp only [cO, aB]) | (unfold eR; dsimp only [cO, aB]) | (unfold cH; dsimp only [aB]))); first | done | rfl | rw [hmap]) b1 (ch) T y2 y3 y4 V y7 U mQ Z⟩
        ·
         try simp only [BS] at hY
         refine wR 1 [] 51 52 [] [(51, (.bool (vx.i.op == 11)))] trivial rfl fun _ => ?_
         refine aj 1 1 (v := (vx.i.op == 11)) rfl rfl rfl rfl (fun h1 => ?_) (fun h1 => ?_)
         ·
          try simp only [BS] at h1
          refine wR 1 [(2, .o (iI vx.i.c)), (3, .o (iI (bo s.top.regs vx.i.c)))] 53 57 [] [(57, (.bool (bo s.top.regs vx.i.c == 0)))] (vA (ql 3 3 (HS.hc z (i := 10) rfl) rfl rfl) (vA (ic.fb ex s.top.regs vx.i.c c8 (HS.hc z (i := 5) rfl) (OS.sv x2 z (i := 6) rfl) (by omega) (by omega)) trivial)) rfl fun _ => ?_
          refine aj 0 1 (v := (bo s.top.regs vx.i.c == 0)) rfl rfl rfl rfl (fun h2 => ?_) (fun h2 => ?_)
          ·
           try simp only [BS] at h2
           refine aG rfl ?_
           refine fm (.pointer (some ⟨bt.b, 0, none⟩)) rfl rfl rfl ?_
           refine wfv (v := (.pointer (some ⟨I, 1, none⟩))) (aR rfl rfl) ?_
           refine au (v := (iI vx.i.a)) (id := .l I) (aA (i := 1) rfl rfl (HS.hc z.log0 (i := 10) rfl) rfl rfl) rfl rfl (aL rfl) (kb rfl) ?_
           refine fm (.pointer (some ⟨bt.b, 0, none⟩)) rfl rfl rfl ?_
           refine wfv (v := (.pointer (some ⟨I, 2, none⟩))) (aR rfl rfl) ?_
           refine au (v := (iI vx.i.b)) (id := .l I) (aA (i := 2) rfl rfl (HS.hc z.log0 (i := 10) rfl) rfl rfl) rfl rfl (aL rfl) (kb rfl) ?_
           refine bg (W := []) (aw rfl rfl rfl) rfl rfl rfl (ic.jH ex s.top.regs vx.i.b _ (HS.hc z.log0 (i := 5) rfl) (OS.sv x2 z.log0 (i := 6) rfl) (by omega) (by omega)) (⟨.inl rfl, ⟨.inl rfl, ⟨.inl rfl, ⟨.inr List.not_mem_nil, ⟨.inr trivial, ⟨.inr trivial, trivial⟩⟩⟩⟩⟩⟩) ?_
           rintro _ _ ⟨rl, rfl, rfl, rfl⟩
           refine ⟨fun b hb => absurd hb List.not_mem_nil, fun nm lR => ?_⟩
           have he := HS.lg z.log0 z lR
           generalize ({ { c8 with log := [] } with log := nm } : Heap) = pU at he ⊢
           refine bg (W := ((([(bt.b, .cells [(iI s.top.code.params), (iI s.top.code.regs), (.slice ba s.top.code.blocks.length bk), (.slice ra s.top.regs.length rk), (.slice aa s.top.args.length ak), (iI s.top.blk), (iI (s.top.at_ + 1)), (iI s.top.to_)] none false)] : Fp) ++ pg).map Prod.fst)) (aw rfl rfl rfl) rfl rfl rfl (i0 ex s.top.regs vx.i.a (bo s.top.regs vx.i.b) (HS.call2 he.log0 (i := 5) (j := 6) (by decide) rfl rfl) x2 (by omega) (by omega) (by exact hgr _)) (kb rfl) ?_
           rintro _ oz ⟨nP, ob, nZ, nF, qv, ci, b2, rfl, mR⟩
           refine ⟨HS.didW b2, fun nn lS => ?_⟩
           replace b2 := HS.back2 he.log0 (i := 5) (j := 6) (by decide) rfl rfl rfl (fun _ hb => hb) b2
           replace b2 := HS.lg b2 he lS
           generalize ({ oz with log := nn } : Heap) = pV at b2 ⊢
           have b2 : HS _ _ _ [dn, pc, pr, pp, pl, [(bt.b, .cells [(iI s.top.code.params), (iI s.top.code.regs), (.slice ba s.top.code.blocks.length bk), (.slice nP ob nZ), (.slice aa s.top.args.length ak), (iI s.top.blk), (iI (s.top.at_ + 1)), (iI s.top.to_)] none false)], nF, po, E, A, av] _ := b2
           replace U := U.mono ci
           replace Z := Z.mono ci
           replace T := T.mono ci
           replace y3 := y3.mono ci
           replace V := V.mono ci
           replace y2 := SF.mono ci y2
           replace y4 := FAM.mono (fun k => CR.mono ci k) y4
           refine bw ?_
           refine ao 1 rfl ?_
           exact am ⟨.inl rfl, _, rfl, rfl, RunP.mk (bt := bt) (L := [E, A, av]) (by (try subst hq_vx); unfold bz; dsimp only [f3, gc, cC]; (repeat (first | rw [if_pos (by omega)] | rw [if_neg (by omega)] | rw [if_pos hlow] | rw [if_neg hlow] | (unfold cM; dsimp only [goT, aB]) | (unfold fC; dsimp only [aB]) | (unfold ge; dsimp only [cO, aB]) | (unfold eR; dsimp only [cO, aB]) | (unfold cH; dsimp only [aB]))); first | done | rfl | rw [hmap]) b2 (ci) T y2 y3 y4 V y7 U mR Z⟩
          ·
           try simp only [BS] at h2
           exact am ⟨.inl rfl, _, rfl, rfl, RunP.mk (bt := bt) (L := [E, A, av]) (by (try subst hq_vx); unfold bz; dsimp only [f3, gc, cC]; (repeat (first | rw [if_pos (by omega)] | rw [if_neg (by omega)] | rw [if_pos hlow] | rw [if_neg hlow] | (unfold cM; dsimp only [goT, aB]) | (unfold fC; dsimp only [aB]) | (unfold ge; dsimp only [cO, aB]) | (unfold eR; dsimp only [cO, aB]) | (unfold cH; dsimp only [aB]))); first | done | rfl | rw [hmap]) z fR T y2 y3 y4 V y7 U x2 Z⟩
         ·
          try simp only [BS] at h1
          refine wR 1 [] 66 67 [] [(66, (.bool (vx.i.op == 12)))] trivial rfl fun _ => ?_
          refine aj 1 1 (v := (vx.i.op == 12)) rfl rfl rfl rfl (fun h3 => ?_) (fun h3 => ?_)
          ·
           try simp only [BS] at h3
           refine wR 1 [(2, .o (iI vx.i.c)), (3, .o (iI (bo s.top.regs vx.i.c)))] 68 72 [] [(72, (.bool (bo s.top.regs vx.i.c != 0)))] (vA (ql 3 3 (HS.hc z (i := 10) rfl) rfl rfl) (vA (ic.fb ex s.top.regs vx.i.c c8 (HS.hc z (i := 5) rfl) (OS.sv x2 z (i := 6) rfl) (by omega) (by omega)) trivial)) rfl fun _ => ?_
           refine aj 0 1 (v := (bo s.top.regs vx.i.c != 0)) rfl rfl rfl rfl (fun h4 => ?_) (fun h4 => ?_)
           ·
            try simp only [BS] at h4
            refine aG rfl ?_
            refine fm (.pointer (some ⟨bt.b, 0, none⟩)) rfl rfl rfl ?_
            refine wfv (v := (.pointer (some ⟨I, 1, none⟩))) (aR rfl rfl) ?_
            refine au (v := (iI vx.i.a)) (id := .l I) (aA (i := 1) rfl rfl (HS.hc z.log0 (i := 10) rfl) rfl rfl) rfl rfl (aL rfl) (kb rfl) ?_
            refine fm (.pointer (some ⟨bt.b, 0, none⟩)) rfl rfl rfl ?_
            refine wfv (v := (.pointer (some ⟨I, 2, none⟩))) (aR rfl rfl) ?_
            refine au (v := (iI vx.i.b)) (id := .l I) (aA (i := 2) rfl rfl (HS.hc z.log0 (i := 10) rfl) rfl rfl) rfl rfl (aL rfl) (kb rfl) ?_
            refine bg (W := []) (aw rfl rfl rfl) rfl rfl rfl (ic.jH ex s.top.regs vx.i.b _ (HS.hc z.log0 (i := 5) rfl) (OS.sv x2 z.log0 (i := 6) rfl) (by omega) (by omega)) (⟨.inl rfl, ⟨.inl rfl, ⟨.inl rfl, ⟨.inr List.not_mem_nil, ⟨.inr trivial, ⟨.inr trivial, trivial⟩⟩⟩⟩⟩⟩) ?_
            rintro _ _ ⟨rm, rfl, rfl, rfl⟩
            refine ⟨fun b hb => absurd hb List.not_mem_nil, fun np lT => ?_⟩
            have hf := HS.lg z.log0 z lT
            generalize ({ { c8 with log := [] } with log := np } : Heap) = pW at hf ⊢
            refine bg (W := ((([(bt.b, .cells [(iI s.top.code.params), (iI s.top.code.regs), (.slice ba s.top.code.blocks.length bk), (.slice ra s.top.regs.length rk), (.slice aa s.top.args.length ak), (iI s.top.blk), (iI (s.top.at_ + 1)), (iI s.top.to_)] none false)] : Fp) ++ pg).map Prod.fst)) (aw rfl rfl rfl) rfl rfl rfl (i0 ex s.top.regs vx.i.a (bo s.top.regs vx.i.b) (HS.call2 hf.log0 (i := 5) (j := 6) (by decide) rfl rfl) x2 (by omega) (by omega) (by exact hgr _)) (kb rfl) ?_
            rintro _ oA ⟨nQ, oc, n1, nG, qw, co, b3, rfl, mS⟩
            refine ⟨HS.didW b3, fun nq lU => ?_⟩
            replace b3 := HS.back2 hf.log0 (i := 5) (j := 6) (by decide) rfl rfl rfl (fun _ hb => hb) b3
            replace b3 := HS.lg b3 hf lU
            generalize ({ oA with log := nq } : Heap) = pX at b3 ⊢
            have b3 : HS _ _ _ [dn, pc, pr, pp, pl, [(bt.b, .cells [(iI s.top.code.params), (iI s.top.code.regs), (.slice ba s.top.code.blocks.length bk), (.slice nQ oc n1), (.slice aa s.top.args.length ak), (iI s.top.blk), (iI (s.top.at_ + 1)), (iI s.top.to_)] none false)], nG, po, E, A, av] _ := b3
            replace U := U.mono co
            replace Z := Z.mono co
            replace T := T.mono co
            replace y3 := y3.mono co
            replace V := V.mono co
            replace y2 := SF.mono co y2
            replace y4 := FAM.mono (fun k => CR.mono co k) y4
            refine bw ?_
            refine ao 1 rfl ?_
            exact am ⟨.inl rfl, _, rfl, rfl, RunP.mk (bt := bt) (L := [E, A, av]) (by (try subst hq_vx); unfold bz; dsimp only [f3, gc, cC]; (repeat (first | rw [if_pos (by omega)] | rw [if_neg (by omega)] | rw [if_pos hlow] | rw [if_neg hlow] | (unfold cM; dsimp only [goT, aB]) | (unfold fC; dsimp only [aB]) | (unfold ge; dsimp only [cO, aB]) | (unfold eR; dsimp only [cO, aB]) | (unfold cH; dsimp only [aB]))); first | done | rfl | rw [hmap]) b3 (co) T y2 y3 y4 V y7 U mS Z⟩
           ·
            try simp only [BS] at h4
            exact am ⟨.inl rfl, _, rfl, rfl, RunP.mk (bt := bt) (L := [E, A, av]) (by (try subst hq_vx); unfold bz; dsimp only [f3, gc, cC]; (repeat (first | rw [if_pos (by omega)] | rw [if_neg (by omega)] | rw [if_pos hlow] | rw [if_neg hlow] | (unfold cM; dsimp only [goT, aB]) | (unfold fC; dsimp only [aB]) | (unfold ge; dsimp only [cO, aB]) | (unfold eR; dsimp only [cO, aB]) | (unfold cH; dsimp only [aB]))); first | done | rfl | rw [hmap]) z fR T y2 y3 y4 V y7 U x2 Z⟩
          ·
           try simp only [BS] at h3
           refine wR 1 [] 81 82 [] [(81, (.bool (vx.i.op == 13)))] trivial rfl fun _ => ?_
           refine aj 0 1 (v := (vx.i.op == 13)) rfl rfl rfl rfl (fun h5 => ?_) (fun h5 => ?_)
           ·
            try simp only [BS] at h5
            refine ab ?_
            refine wRo 5 0 [(2, .o (iI vx.i.a)), (4, .o (iI vx.i.n))] 83 87 [] [(83, (.pointer (some ⟨bt.b, 0, none⟩))), (85, (iI vx.i.a)), (87, (iI vx.i.n))] (vA (ql 3 1 (HS.hc z (i := 10) rfl) rfl rfl) (vA (ql 2 4 (HS.hc z (i := 10) rfl) rfl rfl) trivial)) rfl fun _ => ?_
            refine aC (aw rfl rfl rfl) rfl rfl (i0 ex s.top.regs vx.i.a vx.i.n (HS.call2 z (i := 5) (j := 6) (by decide) rfl rfl) x2 (by omega) (by omega) (by omega)) ?_
            rintro _ qJ ⟨nR, od, n2, nH, qx, cv, gj, rfl, mT⟩
            replace gj := HS.back2 z (i := 5) (j := 6) (by decide) rfl rfl rfl (fun _ hb => hb) gj
            have gj : HS _ _ _ [dn, pc, pr, pp, pl, [(bt.b, .cells [(iI s.top.code.params), (iI s.top.code.regs), (.slice ba s.top.code.blocks.length bk), (.slice nR od n2), (.slice aa s.top.args.length ak), (iI s.top.blk), (iI (s.top.at_ + 1)), (iI s.top.to_)] none false)], nH, po, E, A, av] _ := gj
            replace U := U.mono cv
            replace Z := Z.mono cv
            replace T := T.mono cv
            replace y3 := y3.mono cv
            replace V := V.mono cv
            replace y2 := SF.mono cv y2
            replace y4 := FAM.mono (fun k => CR.mono cv k) y4
            refine ai 1 rfl ?_
            exact am ⟨.inl rfl, _, rfl, rfl, RunP.mk (bt := bt) (L := [E, A, av]) (by (try subst hq_vx); unfold bz; dsimp only [f3, gc, cC]; (repeat (first | rw [if_pos (by omega)] | rw [if_neg (by omega)] | rw [if_pos hlow] | rw [if_neg hlow] | (unfold cM; dsimp only [goT, aB]) | (unfold fC; dsimp only [aB]) | (unfold ge; dsimp only [cO, aB]) | (unfold eR; dsimp only [cO, aB]) | (unfold cH; dsimp only [aB]))); first | done | rfl | rw [hmap]) gj (cv) T y2 y3 y4 V y7 U mT Z⟩
           ·
            try simp only [BS] at h5
            refine wR 1 [] 89 90 [] [(89, (.bool (vx.i.op == 38)))] trivial rfl fun _ => ?_
            refine aj 0 1 (v := (vx.i.op == 38)) rfl rfl rfl rfl (fun h6 => ?_) (fun h6 => ?_)
            ·
             try simp only [BS] at h6
             refine aG rfl ?_
             refine fm (.pointer (some ⟨bt.b, 0, none⟩)) rfl rfl rfl ?_
             refine wfv (v := (.pointer (some ⟨I, 1, none⟩))) (aR rfl rfl) ?_
             refine au (v := (iI vx.i.a)) (id := .l I) (aA (i := 1) rfl rfl (HS.hc z.log0 (i := 10) rfl) rfl rfl) rfl rfl (aL rfl) (kb rfl) ?_
             refine fm (.pointer (some ⟨bt.b, 0, none⟩)) rfl rfl rfl ?_
             refine wfv (v := (.pointer (some ⟨bt.b, 0, none⟩))) (bB rfl) ?_
             refine wfv (v := (.pointer (some ⟨bt.b, 4, none⟩))) (aR rfl rfl) ?_
             refine au (v := (.slice aa s.top.args.length ak)) (id := .l bt.b) (aA (i := 4) rfl rfl (HS.hc z.log0 (i := 5) rfl) rfl rfl) rfl rfl (aL rfl) (kb rfl) ?_
             refine wfv (v := (.pointer (some ⟨I, 4, none⟩))) (aR rfl rfl) ?_
             refine au (v := (iI vx.i.n)) (id := .l I) (aA (i := 4) rfl rfl (HS.hc z.log0 (i := 10) rfl) rfl rfl) rfl rfl (aL rfl) (kb rfl) ?_
             refine wfv (v := (.pointer (some ⟨sB (.slice aa s.top.args.length ak), sO (.slice aa s.top.args.length ak) + vx.i.n.toNat * Rp.sz Int, none⟩))) (bd (α := Int) (j := vx.i.n) rfl rfl rfl rfl (SR.sv Z z.log0) (by omega) (by omega)) ?_
             obtain ⟨p8, mU, mz⟩ := Sv.at (SR.sv Z z.log0) (aI (x := (0 : Int)) (show vx.i.n.toNat < s.top.args.length from by omega))
             obtain ⟨rfl, pE⟩ := mU
             refine au (v := (iI (s.top.args.getD vx.i.n.toNat 0))) (id := .l (sB (.slice aa s.top.args.length ak))) (aA (i := 0) rfl rfl mz rfl rfl) rfl rfl (aL rfl) (kb rfl) ?_
             refine bg (W := ((([(bt.b, .cells [(iI s.top.code.params), (iI s.top.code.regs), (.slice ba s.top.code.blocks.length bk), (.slice ra s.top.regs.length rk), (.slice aa s.top.args.length ak), (iI s.top.blk), (iI (s.top.at_ + 1)), (iI s.top.to_)] none false)] : Fp) ++ pg).map Prod.fst)) (aw rfl rfl rfl) rfl rfl rfl (i0 ex s.top.regs vx.i.a (s.top.args.getD vx.i.n.toNat 0) (HS.call2 z.log0 (i := 5) (j := 6) (by decide) rfl rfl) x2 (by omega) (by omega) (by omega)) (kb rfl) ?_
             rintro _ oB ⟨nS, oe, n3, nI, qy, c0, b4, rfl, mV⟩
             refine ⟨HS.didW b4, fun nr lV => ?_⟩
             replace b4 := HS.back2 z.log0 (i := 5) (j := 6) (by decide) rfl rfl rfl (fun _ hb => hb) b4
             replace b4 := HS.lg b4 z lV
             generalize ({ oB with log := nr } : Heap) = pY at b4 ⊢
             have b4 : HS _ _ _ [dn, pc, pr, pp, pl, [(bt.b, .cells [(iI s.top.code.params), (iI s.top.code.regs), (.slice ba s.top.code.blocks.length bk), (.slice nS oe n3), (.slice aa s.top.args.length ak), (iI s.top.blk), (iI (s.top.at_ + 1)), (iI s.top.to_)] none false)], nI, po, E, A, av] _ := b4
             replace U := U.mono c0
             replace Z := Z.mono c0
             replace T := T.mono c0
             replace y3 := y3.mono c0
             replace V := V.mono c0
             replace y2 := SF.mono c0 y2
             replace y4 := FAM.mono (fun k => CR.mono c0 k) y4
             refine bw ?_
             refine ao 1 rfl ?_
             exact am ⟨.inl rfl, _, rfl, rfl, RunP.mk (bt := bt) (L := [E, A, av]) (by (try subst hq_vx); unfold bz; dsimp only [f3, gc, cC]; (repeat (first | rw [if_pos (by omega)] | rw [if_neg (by omega)] | rw [if_pos hlow] | rw [if_neg hlow] | (unfold cM; dsimp only [goT, aB]) | (unfold fC; dsimp only [aB]) | (unfold ge; dsimp only [cO, aB]) | (unfold eR; dsimp only [cO, aB]) | (unfold cH; dsimp only [aB]))); first | done | rfl | rw [hmap]) b4 (c0) T y2 y3 y4 V y7 U mV Z⟩
            ·
             try simp only [BS] at h6
             refine wR 1 [] 103 104 [] [(103, (.bool (vx.i.op == 15)))] trivial rfl fun _ => ?_
             refine aj 0 1 (v := (vx.i.op == 15)) rfl rfl rfl rfl (fun h7 => ?_) (fun h7 => ?_)
             ·
              try simp only [BS] at h7
              refine aG rfl ?_
              refine fm (.pointer (some ⟨bt.b, 0, none⟩)) rfl rfl rfl ?_
              refine wfv (v := (.pointer (some ⟨I, 1, none⟩))) (aR rfl rfl) ?_
              refine au (v := (iI vx.i.a)) (id := .l I) (aA (i := 1) rfl rfl (HS.hc z.log0 (i := 10) rfl) rfl rfl) rfl rfl (aL rfl) (kb rfl) ?_
              refine fm (.pointer (some ⟨bt.b, 0, none⟩)) rfl rfl rfl ?_
              refine wfv (v := (.pointer (some ⟨I, 1, none⟩))) (aR rfl rfl) ?_
              refine au (v := (iI vx.i.a)) (id := .l I) (aA (i := 1) rfl rfl (HS.hc z.log0 (i := 10) rfl) rfl rfl) rfl rfl (aL rfl) (kb rfl) ?_
              refine bg (W := []) (aw rfl rfl rfl) rfl rfl rfl (ic.jH ex s.top.regs vx.i.a _ (HS.hc z.log0 (i := 5) rfl) (OS.sv x2 z.log0 (i := 6) rfl) (by omega) (by omega)) (⟨.inl rfl, ⟨.inl rfl, ⟨.inl rfl, ⟨.inr List.not_mem_nil, ⟨.inr trivial, ⟨.inr trivial, trivial⟩⟩⟩⟩⟩⟩) ?_
              rintro _ _ ⟨rp, rfl, rfl, rfl⟩
              refine ⟨fun b hb => absurd hb List.not_mem_nil, fun ns lW => ?_⟩
              have hF := HS.lg z.log0 z lW
              generalize ({ { c8 with log := [] } with log := ns } : Heap) = mp at hF ⊢
              refine bg (W := []) (aw rfl rfl rfl) rfl rfl rfl (iw.un_c ex (20) (bo s.top.regs vx.i.a) _) (⟨.inl rfl, ⟨.inl rfl, ⟨.inl rfl, ⟨.inl rfl, ⟨.inr List.not_mem_nil, ⟨.inr trivial, ⟨.inr trivial, trivial⟩⟩⟩⟩⟩⟩⟩) ?_
              rintro _ _ ⟨rq, rfl, rfl, rfl⟩
              refine ⟨fun b hb => absurd hb List.not_mem_nil, fun nt lX => ?_⟩
              have hg := HS.lg hF.log0 hF lX
              generalize ({ { mp with log := [] } with log := nt } : Heap) = pZ at hg ⊢
              refine bg (W := ((([(bt.b, .cells [(iI s.top.code.params), (iI s.top.code.regs), (.slice ba s.top.code.blocks.length bk), (.slice ra s.top.regs.length rk), (.slice aa s.top.args.length ak), (iI s.top.blk), (iI (s.top.at_ + 1)), (iI s.top.to_)] none false)] : Fp) ++ pg).map Prod.fst)) (aw rfl rfl rfl) rfl rfl rfl (i0 ex s.top.regs vx.i.a (unV (20 : Int) (bo s.top.regs vx.i.a)) (HS.call2 hg.log0 (i := 5) (j := 6) (by decide) rfl rfl) x2 (by omega) (by omega) (by exact bH)) (kb rfl) ?_
              rintro _ oC ⟨nT, og, n4, nJ, qz, c3, b6, rfl, mW⟩
              refine ⟨HS.didW b6, fun nu lY => ?_⟩
              replace b6 := HS.back2 hg.log0 (i := 5) (j := 6) (by decide) rfl rfl rfl (fun _ hb => hb) b6
              replace b6 := HS.lg b6 hg lY
              generalize ({ oC with log := nu } : Heap) = p0 at b6 ⊢
              have b6 : HS _ _ _ [dn, pc, pr, pp, pl, [(bt.b, .cells [(iI s.top.code.params), (iI s.top.code.regs), (.slice ba s.top.code.blocks.length bk), (.slice nT og n4), (.slice aa s.top.args.length ak), (iI s.top.blk), (iI (s.top.at_ + 1)), (iI s.top.to_)] none false)], nJ, po, E, A, av] _ := b6
              replace U := U.mono c3
              replace Z := Z.mono c3
              replace T := T.mono c3
              replace y3 := y3.mono c3
              replace V := V.mono c3
              replace y2 := SF.mono c3 y2
              replace y4 := FAM.mono (fun k => CR.mono c3 k) y4
              refine bw ?_
              refine ao 1 rfl ?_
              exact am ⟨.inl rfl, _, rfl, rfl, RunP.mk (bt := bt) (L := [E, A, av]) (by (try subst hq_vx); unfold bz; dsimp only [f3, gc, cC]; (repeat (first | rw [if_pos (by omega)] | rw [if_neg (by omega)] | rw [if_pos hlow] | rw [if_neg hlow] | (unfold cM; dsimp only [goT, aB]) | (unfold fC; dsimp only [aB]) | (unfold ge; dsimp only [cO, aB]) | (unfold eR; dsimp only [cO, aB]) | (unfold cH; dsimp only [aB]))); first | done | rfl | rw [hmap]) b6 (c3) T y2 y3 y4 V y7 U mW Z⟩
             ·
              try simp only [BS] at h7
              refine wR 1 [] 114 115 [] [(114, (.bool (vx.i.op == 16)))] trivial rfl fun _ => ?_
              refine aj 0 1 (v := (vx.i.op == 16)) rfl rfl rfl rfl (fun h8 => ?_) (fun h8 => ?_)
              ·
               try simp only [BS] at h8
               refine aG rfl ?_
               refine fm (.pointer (some ⟨bt.b, 0, none⟩)) rfl rfl rfl ?_
               refine wfv (v := (.pointer (some ⟨I, 1, none⟩))) (aR rfl rfl) ?_
               refine au (v := (iI vx.i.a)) (id := .l I) (aA (i := 1) rfl rfl (HS.hc z.log0 (i := 10) rfl) rfl rfl) rfl rfl (aL rfl) (kb rfl) ?_
               refine fm (.pointer (some ⟨bt.b, 0, none⟩)) rfl rfl rfl ?_
               refine wfv (v := (.pointer (some ⟨I, 1, none⟩))) (aR rfl rfl) ?_
               refine au (v := (iI vx.i.a)) (id := .l I) (aA (i := 1) rfl rfl (HS.hc z.log0 (i := 10) rfl) rfl rfl) rfl rfl (aL rfl) (kb rfl) ?_
               refine bg (W := []) (aw rfl rfl rfl) rfl rfl rfl (ic.jH ex s.top.regs vx.i.a _ (HS.hc z.log0 (i := 5) rfl) (OS.sv x2 z.log0 (i := 6) rfl) (by omega) (by omega)) (⟨.inl rfl, ⟨.inl rfl, ⟨.inl rfl, ⟨.inr List.not_mem_nil, ⟨.inr trivial, ⟨.inr trivial, trivial⟩⟩⟩⟩⟩⟩) ?_
               rintro _ _ ⟨rr, rfl, rfl, rfl⟩
               refine ⟨fun b hb => absurd hb List.not_mem_nil, fun nv lZ => ?_⟩
               have hG := HS.lg z.log0 z lZ
               generalize ({ { c8 with log := [] } with log := nv } : Heap) = mq at hG ⊢
               refine bg (W := []) (aw rfl rfl rfl) rfl rfl rfl (iw.un_c ex (21) (bo s.top.regs vx.i.a) _) (⟨.inl rfl, ⟨.inl rfl, ⟨.inl rfl, ⟨.inl rfl, ⟨.inr List.not_mem_nil, ⟨.inr trivial, ⟨.inr trivial, trivial⟩⟩⟩⟩⟩⟩⟩) ?_
               rintro _ _ ⟨rt, rfl, rfl, rfl⟩
               refine ⟨fun b hb => absurd hb List.not_mem_nil, fun nw l0 => ?_⟩
               have hh := HS.lg hG.log0 hG l0
               generalize ({ { mq with log := [] } with log := nw } : Heap) = p1 at hh ⊢
               refine bg (W := ((([(bt.b, .cells [(iI s.top.code.params), (iI s.top.code.regs), (.slice ba s.top.code.blocks.length bk), (.slice ra s.top.regs.length rk), (.slice aa s.top.args.length ak), (iI s.top.blk), (iI (s.top.at_ + 1)), (iI s.top.to_)] none false)] : Fp) ++ pg).map Prod.fst)) (aw rfl rfl rfl) rfl rfl rfl (i0 ex s.top.regs vx.i.a (unV (21 : Int) (bo s.top.regs vx.i.a)) (HS.call2 hh.log0 (i := 5) (j := 6) (by decide) rfl rfl) x2 (by omega) (by omega) (by exact bH)) (kb rfl) ?_
               rintro _ oD ⟨nU, oh, n5, nK, qA, c4, b7, rfl, mX⟩
               refine ⟨HS.didW b7, fun nx l1 => ?_⟩
               replace b7 := HS.back2 hh.log0 (i := 5) (j := 6) (by decide) rfl rfl rfl (fun _ hb => hb) b7
               replace b7 := HS.lg b7 hh l1
               generalize ({ oD with log := nx } : Heap) = p2 at b7 ⊢
               have b7 : HS _ _ _ [dn, pc, pr, pp, pl, [(bt.b, .cells [(iI s.top.code.params), (iI s.top.code.regs), (.slice ba s.top.code.blocks.length bk), (.slice nU oh n5), (.slice aa s.top.args.length ak), (iI s.top.blk), (iI (s.top.at_ + 1)), (iI s.top.to_)] none false)], nK, po, E, A, av] _ := b7
               replace U := U.mono c4
               replace Z := Z.mono c4
               replace T := T.mono c4
               replace y3 := y3.mono c4
               replace V := V.mono c4
               replace y2 := SF.mono c4 y2
               replace y4 := FAM.mono (fun k => CR.mono c4 k) y4
               refine bw ?_
               refine ao 1 rfl ?_
               exact am ⟨.inl rfl, _, rfl, rfl, RunP.mk (bt := bt) (L := [E, A, av]) (by (try subst hq_vx); unfold bz; dsimp only [f3, gc, cC]; (repeat (first | rw [if_pos (by omega)] | rw [if_neg (by omega)] | rw [if_pos hlow] | rw [if_neg hlow] | (unfold cM; dsimp only [goT, aB]) | (unfold fC; dsimp only [aB]) | (unfold ge; dsimp only [cO, aB]) | (unfold eR; dsimp only [cO, aB]) | (unfold cH; dsimp only [aB]))); first | done | rfl | rw [hmap]) b7 (c4) T y2 y3 y4 V y7 U mX Z⟩
              ·
               try simp only [BS] at h8
               refine wR 1 [] 125 126 [] [(125, (.bool (vx.i.op == 33)))] trivial rfl fun _ => ?_
               refine aj 0 1 (v := (vx.i.op == 33)) rfl rfl rfl rfl (fun h9 => ?_) (fun h9 => ?_)
               ·
                try simp only [BS] at h9
                refine aG rfl ?_
                refine fm (.pointer (some ⟨bt.b, 0, none⟩)) rfl rfl rfl ?_
                refine wfv (v := (.pointer (some ⟨I, 1, none⟩))) (aR rfl rfl) ?_
                refine au (v := (iI vx.i.a)) (id := .l I) (aA (i := 1) rfl rfl (HS.hc z.log0 (i := 10) rfl) rfl rfl) rfl rfl (aL rfl) (kb rfl) ?_
                refine fm (.pointer (some ⟨bt.b, 0, none⟩)) rfl rfl rfl ?_
                refine wfv (v := (.pointer (some ⟨I, 1, none⟩))) (aR rfl rfl) ?_
                refine au (v := (iI vx.i.a)) (id := .l I) (aA (i := 1) rfl rfl (HS.hc z.log0 (i := 10) rfl) rfl rfl) rfl rfl (aL rfl) (kb rfl) ?_
                refine bg (W := []) (aw rfl rfl rfl) rfl rfl rfl (ic.jH ex s.top.regs vx.i.a _ (HS.hc z.log0 (i := 5) rfl) (OS.sv x2 z.log0 (i := 6) rfl) (by omega) (by omega)) (⟨.inl rfl, ⟨.inl rfl, ⟨.inl rfl, ⟨.inr List.not_mem_nil, ⟨.inr trivial, ⟨.inr trivial, trivial⟩⟩⟩⟩⟩⟩) ?_
                rintro _ _ ⟨rv, rfl, rfl, rfl⟩
                refine ⟨fun b hb => absurd hb List.not_mem_nil, fun ny l2 => ?_⟩
                have g2 := HS.lg z.log0 z l2
                generalize ({ { c8 with log := [] } with log := ny } : Heap) = p3 at g2 ⊢
                refine wfv (v := (.pointer (some ⟨I, 4, none⟩))) (aR rfl rfl) ?_
                refine au (v := (iI vx.i.n)) (id := .l I) (aA (i := 4) rfl rfl (HS.hc g2.log0 (i := 10) rfl) rfl rfl) rfl rfl (aL rfl) (⟨.inl rfl, ⟨.inr List.not_mem_nil, ⟨.inr trivial, ⟨.inr trivial, ⟨.inr trivial, ⟨.inr trivial, ⟨.inr trivial, ⟨.inr trivial, trivial⟩⟩⟩⟩⟩⟩⟩⟩) ?_
                refine wfv (v := (iI (IntKind.i64.wrap ((bo s.top.regs vx.i.a) + vx.i.n)))) (ap_add rfl rfl rfl) ?_
                refine bg (W := ((([(bt.b, .cells [(iI s.top.code.params), (iI s.top.code.regs), (.slice ba s.top.code.blocks.length bk), (.slice ra s.top.regs.length rk), (.slice aa s.top.args.length ak), (iI s.top.blk), (iI (s.top.at_ + 1)), (iI s.top.to_)] none false)] : Fp) ++ pg).map Prod.fst)) (aw rfl rfl rfl) rfl rfl rfl (i0 ex s.top.regs vx.i.a (IntKind.i64.wrap ((bo s.top.regs vx.i.a) + vx.i.n)) (HS.call2 g2.log0 (i := 5) (j := 6) (by decide) rfl rfl) x2 (by omega) (by omega) (by exact aK _)) (kb rfl) ?_
                rintro _ oE ⟨nV, oi, n6, nL, qB, c5, b9, rfl, mY⟩
                refine ⟨HS.didW b9, fun nz l3 => ?_⟩
                replace b9 := HS.back2 g2.log0 (i := 5) (j := 6) (by decide) rfl rfl rfl (fun _ hb => hb) b9
                replace b9 := HS.lg b9 g2 l3
                generalize ({ oE with log := nz } : Heap) = p4 at b9 ⊢
                have b9 : HS _ _ _ [dn, pc, pr, pp, pl, [(bt.b, .cells [(iI s.top.code.params), (iI s.top.code.regs), (.slice ba s.top.code.blocks.length bk), (.slice nV oi n6), (.slice aa s.top.args.length ak), (iI s.top.blk), (iI (s.top.at_ + 1)), (iI s.top.to_)] none false)], nL, po, E, A, av] _ := b9
                replace U := U.mono c5
                replace Z := Z.mono c5
                replace T := T.mono c5
                replace y3 := y3.mono c5
                replace V := V.mono c5
                replace y2 := SF.mono c5 y2
                replace y4 := FAM.mono (fun k => CR.mono c5 k) y4
                refine bw ?_
                refine ao 1 rfl ?_
                exact am ⟨.inl rfl, _, rfl, rfl, RunP.mk (bt := bt) (L := [E, A, av]) (by (try subst hq_vx); unfold bz; dsimp only [f3, gc, cC]; (repeat (first | rw [if_pos (by omega)] | rw [if_neg (by omega)] | rw [if_pos hlow] | rw [if_neg hlow] | (unfold cM; dsimp only [goT, aB]) | (unfold fC; dsimp only [aB]) | (unfold ge; dsimp only [cO, aB]) | (unfold eR; dsimp only [cO, aB]) | (unfold cH; dsimp only [aB]))); first | done | rfl | rw [hmap]) b9 (c5) T y2 y3 y4 V y7 U mY Z⟩
               ·
                try simp only [BS] at h9
                refine wR 3 [(2, .o (iI vx.i.b)), (3, .o (iI (bo s.top.regs vx.i.b)))] 9 12 [6] [(6, (iI (bo s.top.regs vx.i.b)))] (vA (ql 3 2 (HS.hc z (i := 10) rfl) rfl rfl) (vA (ic.fb ex s.top.regs vx.i.b c8 (HS.hc z (i := 5) rfl) (OS.sv x2 z (i := 6) rfl) (by omega) (by omega)) trivial)) rfl fun _ => ?_
                refine wR 1 [(1, .o (iI vx.i.op)), (5, .o (iI vx.i.op))] 13 24 [] [(24, (.bool (((vx.i.op == 20) || (vx.i.op == 21)) && (bo s.top.regs vx.i.b == 0))))] (vA (ql 3 0 (HS.hc z (i := 10) rfl) rfl rfl) (vA (fun (g1 : (vx.i.op == 20) = false) => (ql 3 0 (HS.hc z (i := 10) rfl) rfl rfl)) trivial)) rfl fun _ => ?_
                refine aj 1 1 (v := (((vx.i.op == 20) || (vx.i.op == 21)) && (bo s.top.regs vx.i.b == 0))) rfl rfl rfl rfl (fun ih => ?_) (fun ih => ?_)
                ·
                 try simp only [BS] at ih
                 refine ab ?_
                 refine wm (.pointer (some ⟨b, 0, none⟩)) rfl rfl rfl ?_
                 refine aC (aw rfl rfl rfl) rfl rfl (jO ex (2) (1) (0) (HS.callOwn z (i := 0) rfl)) ?_
                 rintro _ qK ⟨g3, rfl⟩
                 replace g3 := HS.backOwn z (i := 0) rfl rfl (fun _ hb => hb) g3
                 have g3 : HS _ _ _ [[(b, .cells [(.slice la P.length lk), (.slice ca hd.length ck), (.slice pa (ps ++ [bt]).length pk), (iI s.fuel), (.bool true), (iI 2), (iI 1), (.slice oa s.out.length ok), (iI 0)] none false)], pc, pr, pp, pl, [(bt.b, .cells [(iI s.top.code.params), (iI s.top.code.regs), (.slice ba s.top.code.blocks.length bk), (.slice ra s.top.regs.length rk), (.slice aa s.top.args.length ak), (iI s.top.blk), (iI (s.top.at_ + 1)), (iI s.top.to_)] none false)], pg, po, E, A, av] _ := g3
                 refine ai 1 rfl ?_
                 exact ah ⟨.inr rfl, _, rfl, rfl, RunP.mk (bt := bt) (L := [E, A, av]) (by (try subst hq_vx); unfold bz; dsimp only [f3, gc, cC]; (repeat (first | rw [if_pos (by omega)] | rw [if_neg (by omega)] | rw [if_pos hlow] | rw [if_neg hlow] | (unfold cM; dsimp only [goT, aB]) | (unfold fC; dsimp only [aB]) | (unfold ge; dsimp only [cO, aB]) | (unfold eR; dsimp only [cO, aB]) | (unfold cH; dsimp only [aB]))); first | done | rfl | rw [hmap]) g3 fR T y2 y3 y4 V (by exact ⟨by decide, by decide⟩) U x2 Z⟩
                ·
                 try simp only [BS] at ih
                 refine aG rfl ?_
                 refine fm (.pointer (some ⟨bt.b, 0, none⟩)) rfl rfl rfl ?_
                 refine wfv (v := (.pointer (some ⟨I, 1, none⟩))) (aR rfl rfl) ?_
                 refine au (v := (iI vx.i.a)) (id := .l I) (aA (i := 1) rfl rfl (HS.hc z.log0 (i := 10) rfl) rfl rfl) rfl rfl (aL rfl) (kb rfl) ?_
                 refine wfv (v := (.pointer (some ⟨I, 0, none⟩))) (aR rfl rfl) ?_
                 refine au (v := (iI vx.i.op)) (id := .l I) (aA (i := 0) rfl rfl (HS.hc z.log0 (i := 10) rfl) rfl rfl) rfl rfl (aL rfl) (kb rfl) ?_
                 refine wfv (v := (iI (vx.i.op - 17))) (ap_sub rfl rfl (km (n := vx.i.op - 17) (by omega))) ?_
                 refine wfv (v := (iI ((vx.i.op - 17) + 4))) (ap_add rfl rfl (km (n := (vx.i.op - 17) + 4) (by omega))) ?_
                 refine fm (.pointer (some ⟨bt.b, 0, none⟩)) rfl rfl rfl ?_
                 refine wfv (v := (.pointer (some ⟨I, 1, none⟩))) (aR rfl rfl) ?_
                 refine au (v := (iI vx.i.a)) (id := .l I) (aA (i := 1) rfl rfl (HS.hc z.log0 (i := 10) rfl) rfl rfl) rfl rfl (aL rfl) (kb rfl) ?_
                 refine bg (W := []) (aw rfl rfl rfl) rfl rfl rfl (ic.jH ex s.top.regs vx.i.a _ (HS.hc z.log0 (i := 5) rfl) (OS.sv x2 z.log0 (i := 6) rfl) (by omega) (by omega)) (⟨.inl rfl, ⟨.inl rfl, ⟨.inl rfl, ⟨.inr trivial, ⟨.inr trivial, ⟨.inr List.not_mem_nil, ⟨.inr trivial, ⟨.inr List.not_mem_nil, ⟨.inr trivial, ⟨.inr trivial, trivial⟩⟩⟩⟩⟩⟩⟩⟩⟩⟩) ?_
                 rintro _ _ ⟨rx, rfl, rfl, rfl⟩
                 refine ⟨fun b hb => absurd hb List.not_mem_nil, fun nA l4 => ?_⟩
                 have hK := HS.lg z.log0 z l4
                 generalize ({ { c8 with log := [] } with log := nA } : Heap) = mr at hK ⊢
                 refine fm (iI (bo s.top.regs vx.i.b)) rfl rfl rfl ?_
                 refine bg (W := []) (aw rfl rfl rfl) rfl rfl rfl (iw.bin_c ex ((vx.i.op - 17) + 4) (bo s.top.regs vx.i.a) (bo s.top.regs vx.i.b) _) (⟨.inl rfl, ⟨.inl rfl, ⟨.inl rfl, ⟨.inl rfl, ⟨.inl rfl, ⟨.inl rfl, ⟨.inl rfl, ⟨.inl rfl, ⟨.inl rfl, ⟨.inr List.not_mem_nil, ⟨.inr trivial, ⟨.inr trivial, trivial⟩⟩⟩⟩⟩⟩⟩⟩⟩⟩⟩⟩) ?_
                 rintro _ _ ⟨ry, rfl, rfl, rfl⟩
                 refine ⟨fun b hb => absurd hb List.not_mem_nil, fun nB l5 => ?_⟩
                 have hk := HS.lg hK.log0 hK l5
                 generalize ({ { mr with log := [] } with log := nB } : Heap) = p5 at hk ⊢
                 refine bg (W := ((([(bt.b, .cells [(iI s.top.code.params), (iI s.top.code.regs), (.slice ba s.top.code.blocks.length bk), (.slice ra s.top.regs.length rk), (.slice aa s.top.args.length ak), (iI s.top.blk), (iI (s.top.at_ + 1)), (iI s.top.to_)] none false)] : Fp) ++ pg).map Prod.fst)) (aw rfl rfl rfl) rfl rfl rfl (i0 ex s.top.regs vx.i.a (binV ((vx.i.op - 17) + 4) (bo s.top.regs vx.i.a) (bo s.top.regs vx.i.b)) (HS.call2 hk.log0 (i := 5) (j := 6) (by decide) rfl rfl) x2 (by omega) (by omega) (by exact bf (hgr _))) (kb rfl) ?_
                 rintro _ oF ⟨nW, oj, n7, nM, qC, c6, cd, rfl, mZ⟩
                 refine ⟨HS.didW cd, fun nC l6 => ?_⟩
                 replace cd := HS.back2 hk.log0 (i := 5) (j := 6) (by decide) rfl rfl rfl (fun _ hb => hb) cd
                 replace cd := HS.lg cd hk l6
                 generalize ({ oF with log := nC } : Heap) = p6 at cd ⊢
                 have cd : HS _ _ _ [dn, pc, pr, pp, pl, [(bt.b, .cells [(iI s.top.code.params), (iI s.top.code.regs), (.slice ba s.top.code.blocks.length bk), (.slice nW oj n7), (.slice aa s.top.args.length ak), (iI s.top.blk), (iI (s.top.at_ + 1)), (iI s.top.to_)] none false)], nM, po, E, A, av] _ := cd
                 replace U := U.mono c6
                 replace Z := Z.mono c6
                 replace T := T.mono c6
                 replace y3 := y3.mono c6
                 replace V := V.mono c6
                 replace y2 := SF.mono c6 y2
                 replace y4 := FAM.mono (fun k => CR.mono c6 k) y4
                 refine bw ?_
                 refine ao 1 rfl ?_
                 exact am ⟨.inl rfl, _, rfl, rfl, RunP.mk (bt := bt) (L := [E, A, av]) (by (try subst hq_vx); unfold bz; dsimp only [f3, gc, cC]; (repeat (first | rw [if_pos (by omega)] | rw [if_neg (by omega)] | rw [if_pos hlow] | rw [if_neg hlow] | (unfold cM; dsimp only [goT, aB]) | (unfold fC; dsimp only [aB]) | (unfold ge; dsimp only [cO, aB]) | (unfold eR; dsimp only [cO, aB]) | (unfold cH; dsimp only [aB]))); first | done | rfl | rw [hmap]) cd (c6) T y2 y3 y4 V y7 U mZ Z⟩
       rintro _ qL ⟨rfl, i1⟩
       refine ai 1 rfl ?_
       exact am ⟨.inl rfl, _, rfl, rfl, i1⟩
end Go.Proofs.YtlabedbmgmfbaaaDoor.is_
