/-
 The law that an instruction is expanded as documented, by a symbolic run. No condition but that the table lies as laid and bounds on lengths.
-/
import Derived.Test.YtknafdcgpaejlaaDoorZXXB
import Derived.Test.YtknafdcgpaejlaaDoorZXM9
import Derived.Test.YtknafdcgpaejlaaDoorZXRC
noncomputable section
namespace Go.Proofs.YtknafdcgpaejlaaDoor.xl
open Go.R
set_option maxRecDepth 10000
set_option linter.unusedVariables false
set_option linter.unusedSimpArgs false
open m1 m2 m3 m4 m5 m6 ma ml mb mc md mf mg mh mi mj xa xb m9
theorem vfG.oki {x : VFnT} {n : Int} (h : vfG x n) (j : Nat) : okI 6 (x.blocks.getD j default).ins := by
 refine ⟨Nat.le_trans (h.ins j) (by omega), fun z hz => ?_⟩
 have hv := h.val
 unfold dQ at hv
 rw [Bool.and_eq_true] at hv
 rcases Nat.lt_or_ge j x.blocks.length with hj | hj
 ·
  have hb := all_at hv.2 hj
  unfold blkV at hb
  rw [Bool.and_eq_true] at hb
  have A := List.all_eq_true.1 hb.1 z hz
  unfold fK at A
  simp only [Bool.and_eq_true, decide_eq_true_eq] at A
  omega
 rw [cU hj] at hz; cases hz
theorem oki_up {m n : Nat} {y : List VInT} (h : okI m y) (hm : m ≤ n) : okI n y := ⟨h.1, fun z hz => Nat.le_trans (h.2 z hz) hm⟩
theorem oth_len {f : InfT} {i : InsT} {l : List LocT} : (gv f i l).length ≤ 5 := by
 have z := lenA (f := f) (i := i) (l := l)
 have A := lenB (f := f) (i := i) (l := l)
 have E := lenC (f := f) (i := i) (l := l)
 have J : (wV f i l).length ≤ 1 := len1
 unfold gv
 simp only [List.length_append, List.length_cons, List.length_nil]
 omega
theorem exp_len {v : VInT} {l : List LocT} : (expV v l).length ≤ v.args.length + 5 := by
 unfold expV
 split
 ·
  split
  ·
   have z := gM (l := l) (a := v.args) v.args.length
   have A : (savV (atV l v.i.a).inS (atV l v.i.a).idx).length ≤ 1 := by unfold savV; split <;> (try split) <;> simp
   simp only [List.length_append, List.length_cons, List.length_nil]
   omega
  split
  ·
   unfold movV
   split
   ·
    simp
   split
   ·
    simp
   split
   ·
    simp
   exact Nat.le_trans oth_len (by omega)
  exact Nat.le_trans oth_len (by omega)
 simp
def arI (l : List VInT) : Prop := ∀ y ∈ l, y.args.length ≤ 1048576
theorem arI.app {l m : List VInT} (h : arI l) (hm : arI m) : arI (l ++ m) := fun y hy => (List.mem_append.1 hy).elim (h y) (hm y)
theorem arI.get {l : List VInT} (h : arI l) (k : Nat) : (l.getD k default).args.length ≤ 1048576 := by
 rw [List.getD_eq_getElem?_getD]
 rcases hi : l[k]? with _ | y
 ·
  exact Nat.zero_le _
 exact h y (List.mem_of_getElem? hi)
theorem arI.ok {m : Nat} {l : List VInT} (h : okI m l) (hm : m ≤ 1048576) : arI l := fun y hy => Nat.le_trans (h.2 y hy) hm
theorem arI.two {x y : VInT} {c : VFnT} (hx : x.args.length ≤ 1048576) (hy : fK c.params c.regs y = true) : arI [x, y] := fun z hz => by
 rcases List.mem_cons.1 hz with rfl | hz
 ·
  exact hx
 rw [List.mem_singleton] at hz; subst hz
 exact Nat.le_trans (cG hy).2.2 (by omega)
theorem ex_c (_ : FuncId) {F : Fz} {H : Heap} {R : List Fp} (hs : HS (.of H []) F H [] R) (hT : TB 37 tabC F) : C Tryd.prog 1 (KT 60 44 37 tabC) 44 [] H fun v H' => ∃ (r : Bool), H' = H ∧ v = .bool r ∧ r = true :=
 ⟨0, .bool true, H, by unfold call iW; rw [(hT.heap hs).known (by decide)], true, rfl, rfl, rfl⟩
theorem ex_c_q (e : FuncId) {F : Fz} {H : Heap} {R : List Fp} (hs : HS (.of H []) F H [] R) (hT : TB 37 tabC F) : C Tryd.prog 1 (KT 60 44 37 tabC) 44 [] H fun v H' => v = .bool true ∧ H' = H := cq (ex_c e hs hT) (by rintro _ _ ⟨_, rfl, rfl, rfl⟩; exact ⟨rfl, rfl⟩)
set_option maxHeartbeats 4000000 in
theorem expand_law {ag : Option Addr} {ar : Nat} (raw : VInT) (n : Int) (how : Int) (at_ : Int) {a_locs : Option Addr} {k_locs : Nat} (locs : List Int) {a_any : Option Addr} {k_any : Nat} (any : List LocT) {F : Fz} {H : Heap} {R : List Fp} (hs : HS (.of H []) F H [] R) (kW : in64 raw.i.op) (kX : in64 raw.i.a) (kY : in64 raw.i.b) (kZ : in64 raw.i.c) (k0 : in64 raw.i.n) (c6 : SR F (.slice ag raw.args.length ar) raw.args) (hn : in64 n) (hhow : in64 how) (hat_ : in64 at_) (hlocs : SR F (.slice a_locs locs.length k_locs) locs) (hany : SR F (.slice a_any any.length k_any) any) (hT : TB 37 tabC F) (hraw : raw.args.length ≤ 1048576) : C Tryd.prog 1 (KT 60 44 37 tabC) 14 [(.agg ⟨[(iI raw.i.op), (iI raw.i.a), (iI raw.i.b), (iI raw.i.c), (iI raw.i.n), (.slice ag raw.args.length ar)]⟩), (iI n), (iI how), (iI at_), (.slice a_locs locs.length k_locs), (.slice a_any any.length k_any)] H fun v H' => ∃ (r : Bool) (F' : Fz), Fz.le F F' ∧ HS (.of H []) F' H' [] R ∧ v = .bool r ∧ r = true := by
 refine aJ Tryd.func14 rfl rfl ?_
 refine aq 1 rfl ?_
 refine aa ?_
 refine aC (be hs rfl rfl) rfl rfl ?_
 rintro _ H2 _ ⟨b1, rfl, (k4 : HS _ _ _ [[(b1, .cells [(iI raw.i.op), (iI raw.i.a), (iI raw.i.b), (iI raw.i.c), (iI raw.i.n), (.slice ag raw.args.length ar)] none false)]] _), _⟩
 refine wa (.bool false) rfl rfl rfl ?_
 refine ab 2 rfl ?_
 refine aa ?_
 refine wm (iI n) rfl rfl rfl ?_
 refine aC (aP (α := Int) (ps := [(0, (iI n))]) (cells := [(iI n)]) ([n] : List Int) k4 rfl rfl rfl (by kernel_rfl) ⟨[(iI n)], [], rfl, ⟨rfl, by omega⟩, rfl⟩ rfl) rfl rfl ?_
 rintro _ H4 p3 ⟨a3, k3, rfl, kU, (k5 : HS _ _ _ [_, p3] _), _⟩
 obtain ⟨F5, d2, f0, kV, mG⟩ := OS.frz kU k5 (i := 1) rfl
 have f0 : HS _ _ _ [_, []] _ := f0
 replace hT := hT.mono d2
 refine az (am rfl rfl rfl) rfl rfl (m5.vf_c 44 ([n] : List Int) (2) (HS.call f0) kV hT (by omega) (by (simp))) ?_
 rintro _ H6 ⟨x6, dn, d1, F6, d3, hj, rfl, kS, kT, an, h6⟩
 replace hj : HS _ _ _ [_, _] _ := HS.back f0 rfl hj
 replace hT := hT.mono d3
 refine aC (aR hj rfl) rfl rfl ?_
 rintro _ H8 _ ⟨b7, rfl, (k6 : HS _ _ _ [_, _, [(b7, .cells [(iI 0), (iI 0), (.slice none 0 0)] none false)]] _), _⟩
 refine aF (aw (q := 2) k6 rfl rfl rfl rfl rfl rfl rfl rfl rfl) rfl ?_
 rintro _ H9 _ ⟨(hm : HS _ _ _ [_, _, [(b7, .cells [(iI x6.params), (iI x6.regs), (.slice dn x6.blocks.length d1)] none false)]] _), _⟩
 refine ab 2 rfl ?_
 have hG : vfG x6 2 := by assumption
 have hins := hG.ins
 have hnb := hG.nb
 have vF := vF_of hG.val
 have hrg := vF.regs
 have hreg := hG.reg
 have ho : ∀ j, okI 6 (x6.blocks.getD j default).ins := fun j => vfG.oki hG j
 refine aa ?_
 let d4 : Value := (.agg ⟨[(iI x6.params), (iI x6.regs), (.slice dn x6.blocks.length d1)]⟩)
 refine wRo 3 0 [(0, .o d4)] 25 27 [] [(25, d4), (26, (iI how)), (27, (iI at_))] (vA (qn 24 0 3 (HS.hc hm (i := 2) rfl) rfl rfl rfl rfl) trivial) rfl fun _ => ?_
 refine az (am rfl rfl rfl) rfl rfl (m9.mut_c 44 x6 how at_ (HS.call hm) (by omega) (by omega) an (by omega) (by omega) hT (by omega) (by exact fun j => oki_up (ho j) (by omega))) ?_
 rintro _ mk ⟨Z, b8, b9, l2, cc, e2, rfl, ky, kz, bk, lO, lP⟩
 replace e2 : HS _ _ _ [_, _, _] _ := HS.back hm rfl e2
 replace hT := hT.mono cc
 refine aC (aR e2 rfl) rfl rfl ?_
 rintro _ mn _ ⟨fi, rfl, (j1 : HS _ _ _ [_, _, _, [(fi, .cells [(iI 0), (iI 0), (.slice none 0 0)] none false)]] _), _⟩
 refine aF (aw (q := 3) j1 rfl rfl rfl rfl rfl rfl rfl rfl rfl) rfl ?_
 rintro _ mp _ ⟨(c7 : HS _ _ _ [_, _, _, [(fi, .cells [(iI Z.params), (iI Z.regs), (.slice b8 Z.blocks.length b9)] none false)]] _), _⟩
 refine ab 2 rfl ?_
 have hg : ∀ j, okI 7 (Z.blocks.getD j default).ins := (by assumption : ∀ m, (∀ j, okI m (x6.blocks.getD j default).ins) → ∀ j, okI (m + 1) (Z.blocks.getD j default).ins) 6 ho
 have hmb : Z.blocks.length ≤ 1000 := by assumption
 refine aQ rfl ?_
 let h7 : Value := (.agg ⟨[(iI raw.i.op), (iI raw.i.a), (iI raw.i.b), (iI raw.i.c), (iI raw.i.n), (.slice ag raw.args.length ar)]⟩)
 refine aB (v := h7) (id := .l b1) (bQ (i := 0) rfl rfl rfl (HS.hc c7.log0 (i := 0) rfl) rfl rfl rfl) rfl rfl (bg rfl) trivial ?_
 refine fm (iI n) rfl rfl rfl ?_
 refine aB (v := d4) (id := .l b7) (bQ (i := 0) rfl rfl rfl (HS.hc c7.log0 (i := 2) rfl) rfl rfl rfl) rfl rfl (bg rfl) (kb rfl) ?_
 refine aX (W := []) (am rfl rfl rfl) rfl rfl rfl (m4.vi_c 44 n x6 (HS.call c7.log0) (by omega) (by omega) (by omega) hT (by omega)) (⟨.inl rfl, ⟨.inl rfl, ⟨.inr List.not_mem_nil, trivial⟩⟩⟩) ?_
 rintro _ kK ⟨N, a7, bb, kG, b0, ay, rfl, kA, kB, kC, kD, kE, f5, mF, lQ⟩
 refine ⟨Wr.did ay.log, fun ko hz => ?_⟩
 replace ay := HS.back c7.log0 rfl ay
 replace ay := HS.lg ay c7 hz
 generalize ({ kK with log := ko } : Heap) = lA at ay ⊢
 have ay : HS _ _ _ [_, _, _, _] _ := ay
 replace c6 := (((c6.mono d2).mono d3).mono cc).mono b0
 refine cL (id := .a) (aP (α := VInT) (ps := [(0, h7), (1, (.agg ⟨[(iI N.i.op), (iI N.i.a), (iI N.i.b), (iI N.i.c), (iI N.i.n), (.slice a7 N.args.length bb)]⟩))]) (cells := [(iI raw.i.op), (iI raw.i.a), (iI raw.i.b), (iI raw.i.c), (iI raw.i.n), (.slice ag raw.args.length ar), (iI N.i.op), (iI N.i.a), (iI N.i.b), (iI N.i.c), (iI N.i.n), (.slice a7 N.args.length bb)]) ([raw, N] : List VInT) ay.log0 rfl rfl rfl (by kernel_rfl) ⟨[(iI raw.i.op), (iI raw.i.a), (iI raw.i.b), (iI raw.i.c), (iI raw.i.n), (.slice ag raw.args.length ar)], [(iI N.i.op), (iI N.i.a), (iI N.i.b), (iI N.i.c), (iI N.i.n), (.slice a7 N.args.length bb)], rfl, ⟨ag, ar, rfl, by omega, by omega, by omega, by omega, by omega, c6⟩, ⟨[(iI N.i.op), (iI N.i.a), (iI N.i.b), (iI N.i.c), (iI N.i.n), (.slice a7 N.args.length bb)], [], rfl, ⟨a7, bb, rfl, by omega, by omega, by omega, by omega, by omega, f5⟩, rfl⟩⟩ rfl) rfl rfl (fun _ _ _ _ => iU rfl rfl rfl) (kb rfl) ?_
 rintro _ kL h4 ⟨hW, h1, rfl, i2, co, _⟩ kp hA
 replace co := HS.lg co ay hA
 generalize ({ kL with log := kp } : Heap) = lB at co ⊢
 have co : HS _ _ _ [_, _, _, _, h4] _ := co
 refine fa (.slice hW ([raw, N] : List VInT).length h1) rfl rfl rfl ?_
 refine bU ?_
 refine aq 3 rfl ?_
 refine wR 2 [] 1 0 [16] [(16, (iI 0))] trivial rfl fun _ => ?_
 let f1 : Fp := [(b1, .cells [(iI raw.i.op), (iI raw.i.a), (iI raw.i.b), (iI raw.i.c), (iI raw.i.n), (.slice ag raw.args.length ar)] none false)]
 let f2 : Fp := [(b7, .cells [(iI x6.params), (iI x6.regs), (.slice dn x6.blocks.length d1)] none false)]
 let f3 : Fp := [(fi, .cells [(iI Z.params), (iI Z.regs), (.slice b8 Z.blocks.length b9)] none false)]
 refine aE (fun (mm : Nat) f H' => ∃ (al : List VInT) (k : Nat) (z : Option Addr) (A : Nat) (ad : Fp) (F' : Fz), Fz.le kG F' ∧ HS (Base.of H []) F' H' [f1, [], f2, f3, ad] R ∧ OS F' (.slice z al.length A) al ad ∧ aH f [(4, (.slice a_locs locs.length k_locs)), (5, (.slice a_any any.length k_any)), (12, (.bool false)), (13, (.pointer (some ⟨b7, 0, none⟩))), (14, (.pointer (some ⟨fi, 0, none⟩))), (15, (.slice z al.length A)), (16, (iI (k : Int)))] ∧ mm = Z.blocks.length - k ∧ (al.length ≤ 2 + k * 1000) ∧ (arI al) ∧ (k ≤ 1000)) _ ⟨([raw, N] : List VInT), 0, hW, h1, h4, _, fR, co, i2, ⟨rfl, rfl, rfl, rfl, rfl, rfl, rfl, trivial⟩, rfl, (by simp), (by exact arI.two hraw (by assumption)), (by omega)⟩ ?_
 rintro lW mB mq ⟨al, k, z, A, ad, kH, b2, b4, E, g9, rfl, g1, g2, g3⟩ ki
 refine au _ g9 (fun _ => ?_)
 clear g9
 replace hT := (hT.mono b0).mono b2
 replace hany := ((((hany.mono d2).mono d3).mono cc).mono b0).mono b2
 replace hlocs := ((((hlocs.mono d2).mono d3).mono cc).mono b0).mono b2
 replace bk := (bk.mono b0).mono b2
 replace an := ((an.mono cc).mono b0).mono b2
 have hmk := (hg k).1
 refine aq 2 rfl ?_
 refine wR 1 [(2, .o (.slice b8 Z.blocks.length b9))] 34 38 [] [(38, (.bool (decide ((k : Int) < (Z.blocks.length : Int)))))] (vA (ql 22 2 (HS.hc b4 (i := 3) rfl) rfl rfl) trivial) rfl fun _ => ?_
 refine ap 3 5 (v := (decide ((k : Int) < (Z.blocks.length : Int)))) rfl rfl rfl rfl (fun em => ?_) (fun em => ?_)
 ·
  have g0 := em
  try simp only [BS] at g0
  refine aa ?_
  obtain ⟨ds, hp⟩ := Sv.view (SR.sv bk b4)
  obtain ⟨la, lb, lc, ld, hQ⟩ := BlkT.fx (hp k)
  refine wRo 7 0 [(2, .o (.slice b8 Z.blocks.length b9)), (6, .o (.slice (cA (ds k) 0) (Z.blocks.getD k default).ins.length (cK (ds k) 0)))] 41 47 [] [(41, (.slice z al.length A)), (47, (.slice (cA (ds k) 0) (Z.blocks.getD k default).ins.length (cK (ds k) 0)))] (vA (ql 22 2 (HS.hc b4 (i := 3) rfl) rfl rfl) (vA (Sv.ix (j := (k : Int)) (SR.sv bk b4) (by omega) (by omega)) (vA (ql 46 0 (BlkT.vw (hp k) (by omega)) rfl rfl) trivial))) rfl fun _ => ?_
  refine aC (aW (α := VInT) (q := 4) E b4 rfl rfl rfl (SR.sv hQ b4) rfl rfl rfl rfl rfl rfl rfl (by omega)) rfl rfl ?_
  rintro _ mr h5 ⟨hX, h2, rfl, i3, (j2 : HS _ _ _ [_, _, _, _, h5] _), _⟩
  refine wa (.slice hX (al ++ (Z.blocks.getD k default).ins).length h2) rfl rfl rfl ?_
  refine ab 2 rfl ?_
  refine wR 1 [] 39 40 [16] [(16, (iI ((k : Int) + 1)))] (vA (vi (n := (k : Int) + 1) (by omega)) trivial) rfl fun _ => ?_
  refine ki _ _ _ ?_ ⟨al ++ (Z.blocks.getD k default).ins, k + 1, hX, h2, h5, _, (b2), j2, i3, ⟨rfl, rfl, rfl, rfl, rfl, rfl, rfl, trivial⟩, rfl, (by rw [List.length_append]; have := (hg k).1; omega), (by exact g2.app (arI.ok (hg k) (by omega))), (by omega)⟩
  omega
 have g0 := em
 try simp only [BS] at g0
 refine wR 3 [] 1 0 [17] [(17, (.slice none 0 0))] trivial rfl fun _ => ?_
 refine wR 2 [] 1 0 [18] [(18, (iI 0))] trivial rfl fun _ => ?_
 have e3 := HS.snoc b4
 have e3 : HS _ _ _ [_, _, _, _, ad, []] _ := e3
 refine aE (fun (mm : Nat) f H' => ∃ (lo : List LocT) (r : Nat) (T : Option Addr) (U : Nat) (a5 : Fp) (F' : Fz), Fz.le kH F' ∧ HS (Base.of H []) F' H' [f1, [], f2, f3, ad, a5] R ∧ OS F' (.slice T lo.length U) lo a5 ∧ aH f [(4, (.slice a_locs locs.length k_locs)), (5, (.slice a_any any.length k_any)), (12, (.bool false)), (13, (.pointer (some ⟨b7, 0, none⟩))), (15, (.slice z al.length A)), (17, (.slice T lo.length U)), (18, (iI (r : Int)))] ∧ mm = x6.regs.toNat - r ∧ (lo.length = r) ∧ (r ≤ 3000)) _ ⟨([] : List LocT), 0, none, 0, [], _, fR, e3, (OS.nil : OS _ (.slice none 0 0) ([] : List LocT) []), ⟨rfl, rfl, rfl, rfl, rfl, rfl, rfl, trivial⟩, rfl, (by rfl), (by omega)⟩ ?_
 rintro lX mC kM ⟨lo, r, T, U, a5, l3, b3, a8, dl, ha, rfl, q1, q2⟩ kj
 refine au _ ha (fun _ => ?_)
 clear ha
 replace hT := hT.mono b3
 replace hany := hany.mono b3
 replace hlocs := hlocs.mono b3
 replace an := an.mono b3
 replace E := E.mono b3
 have hpk := dw (Int.tdiv (locs.getD r 0) 2) 8 (by omega)
 refine aq 2 rfl ?_
 refine wR 1 [(2, .o (iI x6.regs))] 49 58 [] [(58, (.bool ((decide ((r : Int) < x6.regs)) && (decide ((r : Int) < (locs.length : Int))))))] (vA (ql 3 1 (HS.hc a8 (i := 2) rfl) rfl rfl) trivial) rfl fun _ => ?_
 refine ap 3 6 (v := ((decide ((r : Int) < x6.regs)) && (decide ((r : Int) < (locs.length : Int))))) rfl rfl rfl rfl (fun es => ?_) (fun es => ?_)
 ·
  have g4 := es
  try simp only [BS] at g4
  refine aQ rfl ?_
  refine fm (.slice T lo.length U) rfl rfl rfl ?_
  refine fm (.slice a_locs locs.length k_locs) rfl rfl rfl ?_
  refine fm (iI (r : Int)) rfl rfl rfl ?_
  refine wfv (v := (.pointer (some ⟨sB (.slice a_locs locs.length k_locs), sO (.slice a_locs locs.length k_locs) + r * Rp.sz Int, none⟩))) (br (α := Int) (j := (r : Int)) rfl rfl rfl rfl (SR.sv hlocs a8.log0) (by omega) (by omega)) ?_
  obtain ⟨lJ, jb, it⟩ := Sv.at (SR.sv hlocs a8.log0) (aK (x := (0 : Int)) (show r < locs.length from by omega))
  obtain ⟨rfl, lf⟩ := jb
  refine aB (v := (iI (locs.getD r 0))) (id := .l (sB (.slice a_locs locs.length k_locs))) (bh (i := 0) rfl rfl it rfl rfl) rfl rfl (bg rfl) (kb rfl) ?_
  refine wfv (v := (iI (bP .and .i64 (locs.getD r 0) 1))) (gk rfl rfl rfl) ?_
  refine wfv (v := (.bool (bP .and .i64 (locs.getD r 0) 1 == 1))) (ap_cmp rfl rfl rfl rfl) ?_
  refine fm (.slice a_locs locs.length k_locs) rfl rfl rfl ?_
  refine fm (iI (r : Int)) rfl rfl rfl ?_
  refine wfv (v := (.pointer (some ⟨sB (.slice a_locs locs.length k_locs), sO (.slice a_locs locs.length k_locs) + r * Rp.sz Int, none⟩))) (br (α := Int) (j := (r : Int)) rfl rfl rfl rfl (SR.sv hlocs a8.log0) (by omega) (by omega)) ?_
  obtain ⟨lK, jc, iv⟩ := Sv.at (SR.sv hlocs a8.log0) (aK (x := (0 : Int)) (show r < locs.length from by omega))
  obtain ⟨rfl, lh⟩ := jc
  refine aB (v := (iI (locs.getD r 0))) (id := .l (sB (.slice a_locs locs.length k_locs))) (bh (i := 0) rfl rfl iv rfl rfl) rfl rfl (bg rfl) (kb rfl) ?_
  have l1 : in64 (locs.getD r 0) → in64 (Int.tdiv (locs.getD r 0) 2) := fun h => vq h (by decide)
  refine wfv (v := (iI (Int.tdiv (locs.getD r 0) 2))) (ap_div rfl rfl (by decide) (w_tdiv (by omega) (by decide))) ?_
  have lN := dw (Int.tdiv (locs.getD r 0) 2) (8 : Int)
  refine aX (W := []) (am rfl rfl rfl) rfl rfl rfl (m1.pick_c 44 (Int.tdiv (locs.getD r 0) 2) (8) _ (by omega)) (⟨.inl rfl, ⟨.inl rfl, ⟨.inl rfl, ⟨.inl rfl, ⟨.inl rfl, ⟨.inr trivial, ⟨.inr trivial, ⟨.inr List.not_mem_nil, ⟨.inr trivial, ⟨.inr trivial, ⟨.inr trivial, ⟨.inr trivial, trivial⟩⟩⟩⟩⟩⟩⟩⟩⟩⟩⟩⟩) ?_
  rintro _ _ ⟨mI, rfl, rfl, rfl⟩
  refine ⟨fun b hb => absurd hb List.not_mem_nil, fun kr hB => ?_⟩
  have e4 := HS.lg a8.log0 a8 hB
  generalize ({ { kM with log := [] } with log := kr } : Heap) = lC at e4 ⊢
  let h8 : Value := (.agg ⟨[(.bool (bP .and .i64 (locs.getD r 0) 1 == 1)), (iI (aS (Int.tdiv (locs.getD r 0) 2) (8 : Int)))]⟩)
  refine wfv (v := h8) (ap_bld rfl rfl (by kernel_rfl)) ?_
  refine cL (id := .a) (aP (α := LocT) (ps := [(0, h8)]) (cells := [(.bool (bP .and .i64 (locs.getD r 0) 1 == 1)), (iI (aS (Int.tdiv (locs.getD r 0) 2) (8 : Int)))]) ([(⟨(bP .and .i64 (locs.getD r 0) 1 == 1), aS (Int.tdiv (locs.getD r 0) 2) (8 : Int)⟩ : LocT)] : List LocT) e4.log0 rfl rfl rfl (by kernel_rfl) ⟨[(.bool (bP .and .i64 (locs.getD r 0) 1 == 1)), (iI (aS (Int.tdiv (locs.getD r 0) 2) (8 : Int)))], [], rfl, ⟨rfl, by (dsimp only; omega)⟩, rfl⟩ rfl) rfl rfl (fun _ _ _ _ => iU rfl rfl rfl) (kb rfl) ?_
  rintro _ kN k7 ⟨mA, mH, rfl, ja, a9, _⟩ kt hC
  replace a9 := HS.lg a9 e4 hC
  generalize ({ kN with log := kt } : Heap) = lD at a9 ⊢
  have a9 : HS _ _ _ [_, _, _, _, _, a5, k7] _ := a9
  refine cL (id := .x (a5.map Prod.fst)) (aW (α := LocT) (q := 5) dl a9.log0 rfl rfl rfl (OS.sv ja a9.log0 (i := 6) rfl) rfl rfl rfl rfl rfl rfl rfl (by (simp only [List.length_append, List.length_cons, List.length_nil]; omega))) rfl rfl (by rintro _ _ ht ⟨go, hr, rfl, hh, _, hwr⟩; exact dh rfl rfl (Wr.did hwr)) (kb rfl) ?_
  rintro _ kO ht ⟨go, hr, rfl, hh, c0, _⟩ ku hD
  replace c0 := HS.lg c0 a9 hD
  generalize ({ kO with log := ku } : Heap) = lE at c0 ⊢
  have c0 : HS _ _ _ [_, _, _, _, _, ht, _] _ := c0
  refine fa (.slice go (lo ++ ([(⟨(bP .and .i64 (locs.getD r 0) 1 == 1), aS (Int.tdiv (locs.getD r 0) 2) (8 : Int)⟩ : LocT)] : List LocT)).length hr) rfl rfl rfl ?_
  refine bU ?_
  refine aq 2 rfl ?_
  refine wR 1 [] 59 60 [18] [(18, (iI ((r : Int) + 1)))] (vA (vi (n := (r : Int) + 1) (by omega)) trivial) rfl fun _ => ?_
  refine kj _ _ _ ?_ ⟨lo ++ ([(⟨(bP .and .i64 (locs.getD r 0) 1 == 1), aS (Int.tdiv (locs.getD r 0) 2) (8 : Int)⟩ : LocT)] : List LocT), r + 1, go, hr, ht, _, (b3), (HS.sub c0 (List.sublist_append_left _ _)), hh, ⟨rfl, rfl, rfl, rfl, rfl, rfl, rfl, trivial⟩, rfl, (by simp; omega), (by omega)⟩
  omega
 have g4 := es
 try simp only [BS] at g4
 obtain ⟨l4, ch, c8, e0, lR⟩ := OS.frz dl a8 (i := 5) rfl
 have c8 : HS _ _ _ [_, _, _, _, _, _] _ := c8
 replace hT := hT.mono ch
 replace hlocs := hlocs.mono ch
 replace an := an.mono ch
 refine aa ?_
 let ib : Value := (.agg ⟨[(.slice T lo.length U), (.slice none 0 0), (iI 0)]⟩)
 let ih : Value := (.agg ⟨[(.slice a_any any.length k_any), (.slice none 0 0), (iI 0)]⟩)
 refine wRo 6 0 [(4, .o d4)] 77 82 [] [(78, ib), (80, ih), (81, d4), (82, (.slice a_locs locs.length k_locs))] (vA (qn 24 0 3 (HS.hc c8 (i := 2) rfl) rfl rfl rfl rfl) trivial) rfl fun _ => ?_
 refine az (am rfl rfl rfl) rfl rfl (xb.loose_c 44 x6 locs (HS.call c8) (by omega) (by omega) an hlocs hT (by exact fun j => Nat.le_trans (hins j) (by omega)) (by exact hG.val)) ?_
 rintro _ ms ⟨J, a0, a2, a1, a4, kI, c3, e5, rfl, kF, f7, f9⟩
 replace e5 : HS _ _ _ [_, _, _, _, _, _] _ := HS.back c8 rfl e5
 replace hany := (hany.mono ch).mono c3
 replace e0 := e0.mono c3
 refine aC (aP (α := AllT) (ps := [(0, ib), (1, ih), (2, (.agg ⟨[(.slice a0 J.locs.length a2), (.slice a1 J.spi.length a4), (iI J.slots)]⟩))]) (cells := [(.slice T lo.length U), (.slice none 0 0), (iI 0), (.slice a_any any.length k_any), (.slice none 0 0), (iI 0), (.slice a0 J.locs.length a2), (.slice a1 J.spi.length a4), (iI J.slots)]) ([(⟨lo, ([] : List SpiT), 0⟩ : AllT), (⟨any, ([] : List SpiT), 0⟩ : AllT), J] : List AllT) e5 rfl rfl rfl (by kernel_rfl) ⟨[(.slice T lo.length U), (.slice none 0 0), (iI 0)], [(.slice a_any any.length k_any), (.slice none 0 0), (iI 0), (.slice a0 J.locs.length a2), (.slice a1 J.spi.length a4), (iI J.slots)], rfl, ⟨T, U, none, 0, rfl, by (dsimp only; omega), e0, SR.nil⟩, ⟨[(.slice a_any any.length k_any), (.slice none 0 0), (iI 0)], [(.slice a0 J.locs.length a2), (.slice a1 J.spi.length a4), (iI J.slots)], rfl, ⟨a_any, k_any, none, 0, rfl, by (dsimp only; omega), hany, SR.nil⟩, ⟨[(.slice a0 J.locs.length a2), (.slice a1 J.spi.length a4), (iI J.slots)], [], rfl, ⟨a0, a2, a1, a4, rfl, by omega, f7, f9⟩, rfl⟩⟩⟩ rfl) rfl rfl ?_
 rintro _ mu hu ⟨hY, h3, rfl, dt, (kc : HS _ _ _ [_, _, _, _, _, _, hu] _), _⟩
 refine wRo 2 8 [] 85 86 [] [(85, (iI 3)), (86, (iI 0))] trivial rfl fun _ => ?_
 refine ab 2 rfl ?_
 refine aE (fun (mm : Nat) f H' => ∃ (kn : Nat) (F' : Fz), Fz.le kI F' ∧ HS (Base.of H []) F' H' [f1, [], f2, f3, ad, [], hu] R ∧ aH f [(15, (.slice z al.length A)), (84, (.slice hY ([(⟨lo, ([] : List SpiT), 0⟩ : AllT), (⟨any, ([] : List SpiT), 0⟩ : AllT), J] : List AllT).length h3)), (85, (iI 3)), (86, (iI (kn : Int)))] ∧ mm = 3 - kn ∧ (kn ≤ 3)) _ ⟨0, _, fR, kc, ⟨rfl, rfl, rfl, rfl, trivial⟩, rfl, (by omega)⟩ ?_
 rintro lY mD mw ⟨kn, kJ, c4, c9, he, rfl, hk⟩ kl
 refine au _ he (fun _ => ?_)
 clear he
 replace hT := (hT.mono c3).mono c4
 replace dt := dt.mono c4
 replace E := ((E.mono ch).mono c3).mono c4
 refine aq 1 rfl ?_
 refine wR 2 [] 87 87 [] [(87, (.bool (decide ((kn : Int) < 3))))] trivial rfl fun _ => ?_
 refine ap 4 5 (v := (decide ((kn : Int) < 3))) rfl rfl rfl rfl (fun et => ?_) (fun et => ?_)
 ·
  have g5 := et
  try simp only [BS] at g5
  refine aa ?_
  obtain ⟨av, hq⟩ := Sv.view (OS.sv dt c9 (i := 6) rfl)
  obtain ⟨lj, bl, bz⟩ := AllT.fx (hq kn)
  let dd : Value := (.agg ⟨[(.slice (cA (av kn) 0) ((([(⟨lo, ([] : List SpiT), 0⟩ : AllT), (⟨any, ([] : List SpiT), 0⟩ : AllT), J] : List AllT).getD kn default).locs).length (cK (av kn) 0)), (.slice (cA (av kn) 1) ((([(⟨lo, ([] : List SpiT), 0⟩ : AllT), (⟨any, ([] : List SpiT), 0⟩ : AllT), J] : List AllT).getD kn default).spi).length (cK (av kn) 1)), (iI ((([(⟨lo, ([] : List SpiT), 0⟩ : AllT), (⟨any, ([] : List SpiT), 0⟩ : AllT), J] : List AllT).getD kn default).slots))]⟩)
  refine wRo 2 0 [(1, .o dd)] 88 89 [] [(89, dd)] (vA (Sv.ix (j := (kn : Int)) (OS.sv dt c9 (i := 6) rfl) (by omega) (show (kn : Int) < (3 : Int) from by omega)) (vA (qn 40 0 3 (AllT.vw (hq kn) (show kn < 3 from by omega)) rfl rfl rfl rfl) trivial)) rfl fun _ => ?_
  refine aC (aR c9 rfl) rfl rfl ?_
  rintro _ mx _ ⟨dk, rfl, (kd : HS _ _ _ [_, _, _, _, _, _, _, [(dk, .cells [(.slice none 0 0), (.slice none 0 0), (iI 0)] none false)]] _), _⟩
  refine aF (aw (q := 7) kd rfl rfl rfl rfl rfl rfl rfl rfl rfl) rfl ?_
  rintro _ my _ ⟨(kg : HS _ _ _ [_, _, _, _, _, _, _, [(dk, .cells [(.slice (cA (av kn) 0) ((([(⟨lo, ([] : List SpiT), 0⟩ : AllT), (⟨any, ([] : List SpiT), 0⟩ : AllT), J] : List AllT).getD kn default).locs).length (cK (av kn) 0)), (.slice (cA (av kn) 1) ((([(⟨lo, ([] : List SpiT), 0⟩ : AllT), (⟨any, ([] : List SpiT), 0⟩ : AllT), J] : List AllT).getD kn default).spi).length (cK (av kn) 1)), (iI ((([(⟨lo, ([] : List SpiT), 0⟩ : AllT), (⟨any, ([] : List SpiT), 0⟩ : AllT), J] : List AllT).getD kn default).slots))] none false)]] _), _⟩
  refine ab 2 rfl ?_
  refine wR 2 [] 1 0 [21] [(21, (iI 0))] trivial rfl fun _ => ?_
  refine aE (fun (mm : Nat) f H' => ∃ (kk : Nat) (F' : Fz), Fz.le kJ F' ∧ HS (Base.of H []) F' H' [f1, [], f2, f3, ad, [], hu, [(dk, .cells [(.slice (cA (av kn) 0) ((([(⟨lo, ([] : List SpiT), 0⟩ : AllT), (⟨any, ([] : List SpiT), 0⟩ : AllT), J] : List AllT).getD kn default).locs).length (cK (av kn) 0)), (.slice (cA (av kn) 1) ((([(⟨lo, ([] : List SpiT), 0⟩ : AllT), (⟨any, ([] : List SpiT), 0⟩ : AllT), J] : List AllT).getD kn default).spi).length (cK (av kn) 1)), (iI ((([(⟨lo, ([] : List SpiT), 0⟩ : AllT), (⟨any, ([] : List SpiT), 0⟩ : AllT), J] : List AllT).getD kn default).slots))] none false)]] R ∧ aH f [(15, (.slice z al.length A)), (20, (.pointer (some ⟨dk, 0, none⟩))), (21, (iI (kk : Int))), (84, (.slice hY ([(⟨lo, ([] : List SpiT), 0⟩ : AllT), (⟨any, ([] : List SpiT), 0⟩ : AllT), J] : List AllT).length h3)), (85, (iI 3)), (86, (iI (kn : Int))), (87, (.bool (decide ((kn : Int) < 3)))), (89, dd)] ∧ mm = al.length - kk ∧ (kk ≤ al.length)) _ ⟨0, _, fR, kg, ⟨rfl, rfl, rfl, rfl, rfl, rfl, rfl, rfl, trivial⟩, rfl, (by omega)⟩ ?_
  rintro lZ mE mz ⟨kk, l5, ci, b6, hf, rfl, hkk⟩ km
  refine au _ hf (fun _ => ?_)
  clear hf
  replace hT := hT.mono ci
  replace E := E.mono ci
  replace bl := bl.mono ci
  replace bz := bz.mono ci
  have har := g2.get kk
  have hel := fun l => exp_len (v := al.getD kk default) (l := l)
  refine aq 2 rfl ?_
  refine wR 1 [] 90 93 [] [(93, (.bool (decide ((kk : Int) < (al.length : Int)))))] trivial rfl fun _ => ?_
  refine ap 4 5 (v := (decide ((kk : Int) < (al.length : Int)))) rfl rfl rfl rfl (fun ex => ?_) (fun ex => ?_)
  ·
   have g6 := ex
   try simp only [BS] at g6
   refine aQ rfl ?_
   refine fm (.slice z al.length A) rfl rfl rfl ?_
   refine fm (iI (kk : Int)) rfl rfl rfl ?_
   refine wfv (v := (.pointer (some ⟨sB (.slice z al.length A), sO (.slice z al.length A) + kk * Rp.sz VInT, none⟩))) (br (α := VInT) (j := (kk : Int)) rfl rfl rfl rfl (OS.sv E b6.log0 (i := 4) rfl) (by omega) (by omega)) ?_
   obtain ⟨lL, jq, iz⟩ := Sv.at (OS.sv E b6.log0 (i := 4) rfl) (aK (x := default) (show kk < al.length from by omega))
   obtain ⟨hv, hK, rfl, ll, lm, ln, lp, lq, hS⟩ := jq
   refine aB (v := (.agg ⟨[(iI (al.getD kk default).i.op), (iI (al.getD kk default).i.a), (iI (al.getD kk default).i.b), (iI (al.getD kk default).i.c), (iI (al.getD kk default).i.n), (.slice hv (al.getD kk default).args.length hK)]⟩)) (id := .l (sB (.slice z al.length A))) (bQ (i := 0) rfl rfl rfl iz rfl rfl rfl) rfl rfl (bg rfl) (kb rfl) ?_
   refine aB (v := dd) (id := .l dk) (bQ (i := 0) rfl rfl rfl (HS.hc b6.log0 (i := 7) rfl) rfl rfl rfl) rfl rfl (bg rfl) (kb rfl) ?_
   refine aX (W := []) (am rfl rfl rfl) rfl rfl rfl (xa.expand_c 44 (al.getD kk default) (([(⟨lo, ([] : List SpiT), 0⟩ : AllT), (⟨any, ([] : List SpiT), 0⟩ : AllT), J] : List AllT).getD kn default) (HS.call b6.log0) (by omega) (by omega) (by omega) (by omega) (by omega) hS bl bz (by omega) hT (by omega)) (kb rfl) ?_
   rintro _ kP ⟨lH, lU, mJ, k8, l6, c5, V, rfl, dv, rfl⟩
   refine ⟨Wr.did V.log, fun kv hE => ?_⟩
   replace V := HS.back b6.log0 rfl V
   replace V := HS.lg V b6 hE
   generalize ({ kP with log := kv } : Heap) = lF at V ⊢
   have V : HS _ _ _ [_, _, _, _, _, _, _, _, k8] _ := V
   replace hT := hT.mono c5
   replace E := E.mono c5
   replace bl := bl.mono c5
   replace bz := bz.mono c5
   refine fm (.slice z al.length A) rfl rfl rfl ?_
   refine fm (iI (kk : Int)) rfl rfl rfl ?_
   refine wfv (v := (.pointer (some ⟨sB (.slice z al.length A), sO (.slice z al.length A) + kk * Rp.sz VInT, none⟩))) (br (α := VInT) (j := (kk : Int)) rfl rfl rfl rfl (OS.sv E V.log0 (i := 4) rfl) (by omega) (by omega)) ?_
   obtain ⟨lM, jw, i1⟩ := Sv.at (OS.sv E V.log0 (i := 4) rfl) (aK (x := default) (show kk < al.length from by omega))
   obtain ⟨hw, hM, rfl, lr, lu, lv, lw, lz, hV⟩ := jw
   refine aB (v := (.agg ⟨[(iI (al.getD kk default).i.op), (iI (al.getD kk default).i.a), (iI (al.getD kk default).i.b), (iI (al.getD kk default).i.c), (iI (al.getD kk default).i.n), (.slice hw (al.getD kk default).args.length hM)]⟩)) (id := .l (sB (.slice z al.length A))) (bQ (i := 0) rfl rfl rfl i1 rfl rfl rfl) rfl rfl (bg rfl) (⟨.inl rfl, ⟨.inl rfl, ⟨.inl rfl, ⟨.inr List.not_mem_nil, ⟨.inr trivial, ⟨.inr trivial, ⟨.inr trivial, ⟨.inr trivial, ⟨.inr trivial, trivial⟩⟩⟩⟩⟩⟩⟩⟩⟩) ?_
   refine aB (v := dd) (id := .l dk) (bQ (i := 0) rfl rfl rfl (HS.hc V.log0 (i := 7) rfl) rfl rfl rfl) rfl rfl (bg rfl) (⟨.inr trivial, ⟨.inr trivial, ⟨.inr trivial, ⟨.inr trivial, ⟨.inr List.not_mem_nil, ⟨.inr trivial, ⟨.inr trivial, ⟨.inr trivial, ⟨.inr trivial, ⟨.inr trivial, trivial⟩⟩⟩⟩⟩⟩⟩⟩⟩⟩) ?_
   refine aX (W := []) (am rfl rfl rfl) rfl rfl rfl (xa.rexpand_c 44 (al.getD kk default) (([(⟨lo, ([] : List SpiT), 0⟩ : AllT), (⟨any, ([] : List SpiT), 0⟩ : AllT), J] : List AllT).getD kn default) (HS.call V.log0) (by omega) (by omega) (by omega) (by omega) (by omega) hV bl bz (by omega) hT (by omega)) (kb rfl) ?_
   rintro _ kQ ⟨lI, lV, mK, k9, l7, ez, ax, rfl, hI, rfl⟩
   refine ⟨Wr.did ax.log, fun kw hF => ?_⟩
   replace ax := HS.back V.log0 rfl ax
   replace ax := HS.lg ax V hF
   generalize ({ kQ with log := kw } : Heap) = ii at ax ⊢
   have ax : HS _ _ _ [_, _, _, _, _, _, _, _, _, k9] _ := ax
   replace hT := hT.mono ez
   replace dv := dv.mono ez
   obtain ⟨l8, g7, e6, e1, lS⟩ := OS.frz dv ax (i := 8) rfl
   have e6 : HS _ _ _ [_, _, _, _, _, _, _, _, [], _] _ := e6
   obtain ⟨l9, g8, fd, j0, lT⟩ := OS.frz (OS.mono g7 hI) e6 (i := 9) rfl
   have e1 := e1.mono g8
   have fd : HS _ _ _ [_, _, _, _, _, _, _, _, _, []] _ := fd
   refine aX (W := []) (am rfl rfl rfl) rfl rfl rfl (xa.same_c 44 (expV (al.getD kk default) (([(⟨lo, ([] : List SpiT), 0⟩ : AllT), (⟨any, ([] : List SpiT), 0⟩ : AllT), J] : List AllT).getD kn default).locs) (expV (al.getD kk default) (([(⟨lo, ([] : List SpiT), 0⟩ : AllT), (⟨any, ([] : List SpiT), 0⟩ : AllT), J] : List AllT).getD kn default).locs) (HS.call fd.log0) e1 j0 ((hT.mono g7).mono g8) (by exact Nat.le_trans exp_len (by omega)) (by rfl)) (kb rfl) ?_
   rintro _ _ ⟨mL, rfl, rfl, rfl⟩
   refine ⟨fun b hb => absurd hb List.not_mem_nil, fun kx hH => ?_⟩
   have hl := HS.lg ax.log0 ax hH
   generalize ({ { ii with log := [] } with log := kx } : Heap) = lG at hl ⊢
   refine wfv (v := (.bool false)) (ap_not (b := true) rfl) ?_
   refine bU ?_
   refine aq 1 rfl ?_
   refine wk_iff 2 (v := false) rfl rfl rfl rfl ?_
   refine wR 1 [] 94 95 [21] [(21, (iI ((kk : Int) + 1)))] (vA (vi (n := (kk : Int) + 1) (by omega)) trivial) rfl fun _ => ?_
   refine km _ _ _ ?_ ⟨kk + 1, _, (fT (fT (ci) c5) ez), (HS.sub hl (List.sublist_append_left _ _)), ⟨rfl, rfl, rfl, rfl, rfl, rfl, rfl, rfl, trivial⟩, rfl, (by omega)⟩
   omega
  have g6 := ex
  try simp only [BS] at g6
  refine wR 1 [] 86 86 [110] [(86, (iI ((kn : Int) + 1)))] (vA (vi (n := (kn : Int) + 1) (by omega)) trivial) rfl fun _ => ?_
  refine kl _ _ _ ?_ ⟨kn + 1, _, (fT (c4) ci), (HS.sub b6 (List.sublist_append_left _ _)), ⟨rfl, rfl, rfl, rfl, trivial⟩, rfl, (by omega)⟩
  omega
 have g5 := et
 try simp only [BS] at g5
 refine wR 1 [(0, .o (.bool true))] 12 12 [111] [(12, (.bool true))] (vA (ex_c_q 44 (HS.call c9) hT) trivial) rfl fun _ => ?_
 refine ah ⟨.inr rfl, _, rfl, true, _, (fT (fT (fT (fT (fT (fT (fT (fT (d2) d3) cc) b0) b2) b3) ch) c3) c4), (HS.forget c9), rfl, (by rfl)⟩
end Go.Proofs.YtknafdcgpaejlaaDoor.xl
