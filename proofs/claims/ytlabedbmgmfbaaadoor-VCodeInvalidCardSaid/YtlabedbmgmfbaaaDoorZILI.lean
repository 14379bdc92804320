/-
 The law that the program and the reference refuse alike what is not valid, by a symbolic run. No condition but that the table lies as laid.
-/
import Derived.Test.YtlabedbmgmfbaaaDoorZIJE
import Derived.Test.YtlabedbmgmfbaaaDoorZIJF
import Derived.Test.YtlabedbmgmfbaaaDoorZIM9
noncomputable section
namespace Go.Proofs.YtlabedbmgmfbaaaDoor.li
open Go.R
set_option maxRecDepth 10000
set_option linter.unusedVariables false
open m1 m2 m3 m4 m5 m6 m7 m8 m9 iw ia ib ic is_ id_ ir it ja jw jc jd je jf
def bdP (l : List VFnT) : Prop := ∀ k j, ((l.getD k default).blocks.getD j default).ins.length ≤ 1000
theorem bdP_of {l : List VFnT} (h : ∀ x ∈ l, ∀ j, (x.blocks.getD j default).ins.length ≤ 1000) : bdP l := fun k j => by
 rw [List.getD_eq_getElem?_getD (l := l)]
 rcases hk : l[k]? with _ | x
 ·
  exact Nat.zero_le _
 ·
  exact h x (List.mem_of_getElem? hk) j
theorem jA {l : List VFnT} (h : bdP l) : ∀ x ∈ l, ∀ j, (x.blocks.getD j default).ins.length ≤ 1000 := fun x hx j => by
 obtain ⟨k, hk, rfl⟩ := List.mem_iff_getElem.1 hx
 have := h k j
 rwa [List.getD_eq_getElem?_getD (l := l), List.getElem?_eq_getElem hk] at this
theorem bd_p {p : List VFnT} (h : p.length = 2 ∧ vfG (p.getD 0 default) 2 ∧ vfG (p.getD 1 default) 1) : bdP p := fun k j => by
 rcases Nat.lt_or_ge k 2 with hk | hk
 ·
  have : k = 0 ∨ k = 1 := by omega
  rcases this with rfl | rfl
  ·
   exact Nat.le_trans (h.2.1.ins j) (by omega)
  ·
   exact Nat.le_trans (h.2.2.ins j) (by omega)
 ·
  have z := h.1
  rw [dU (l := p) (by omega)]; exact Nat.zero_le _
def outS (s : RunS) : OutT := ⟨s.kind, s.code, s.out, s.val⟩
theorem ref_eq {P : List VFnT} {lens : List Int} {f : Int} {args : List Int} {fuel most : Int} : ep P lens f args fuel most = (eQ P lens f args fuel most).map outS := by
 by_cases h : okR P lens f args fuel
 ·
  have hp := i8 h.1
  have hm := fW (P := P) ⟨h.2.1, h.2.2.1⟩
  have hl := hp.lim _ hm
  have hr := js hp (most.toNat + 2) (iniI lens fuel most) (P.getD f.toNat default) (List.replicate (P.getD f.toNat default).regs.toNat 0) [] args 0 0 [] 0 (Nat.lt_succ_self _) rfl rfl hm ⟨Int.le_refl 0, by omega⟩ (Nat.zero_le _) (rge_zero hl.2.2.1)
  have J : goV P (most.toNat + 2) (iniI lens fuel most) (P.getD f.toNat default) (List.replicate (P.getD f.toNat default).regs.toNat 0) args 0 0 = bY P (iniI lens fuel most) f args := rfl
  have O : Mst (iniI lens fuel most) [] ⟨P.getD f.toNat default, [], args, 0, ((0 : Nat) : Int), 0⟩ = iniV P lens f args fuel := rfl
  rw [J, O] at hr
  have T : (iniI lens fuel most).most.toNat = most.toNat := rfl
  rw [T] at hr
  generalize ht : bY P (iniI lens fuel most) f args = t at hr
  cases hlg : t.1.long with
  | true => rw [← rf_long h ht.symm hlg, ← kA rfl (hr.long hlg)]; rfl
  | false =>
   cases hov : t.1.over with
   | true =>
    obtain ⟨j, U, I, A, E, V, Z⟩ := hr.over hlg hov
    have z := jp I (most.toNat - j)
    rw [show j + (most.toNat - j) = most.toNat by omega] at z
    rw [← rf_over h ht.symm hlg hov, ← kz h rfl (by rw [z]; exact I), z]
    show some _ = some (outS _)
    unfold outS
    rw [A, E, V, Z]
   | false =>
    obtain ⟨j, top, U, I, A⟩ := hr.ret hlg hov
    have eb : cH (Mst t.1 [] top) t.2 = aB (Mst t.1 [] top) 1 0 t.2 := by unfold cH; rw [if_pos (show (Mst t.1 [] top).low = [] from rfl)]
    rw [eb] at A
    have E : (itV P j (iniV P lens f args fuel)).over = true := by rw [A]
    have z := jp E (most.toNat - j)
    rw [show j + (most.toNat - j) = most.toNat by omega] at z
    rw [← rf_ret h ht.symm hlg hov, ← kz h rfl (by rw [z]; exact E), z, A]
    rfl
 ·
  rw [← rf_no h, ← run_no h]; rfl
theorem bdP_at {l : List (List VFnT)} (h : ∀ x ∈ l, bdP x) (i : Nat) : bdP (l.getD i default) := by
 rw [List.getD_eq_getElem?_getD]
 rcases hk : l[i]? with _ | x
 ·
  exact fun k j => Nat.zero_le _
 ·
  exact h x (List.mem_of_getElem? hk)
theorem vfG.oki {x : VFnT} {n : Int} (h : vfG x n) (j : Nat) : okI 6 (x.blocks.getD j default).ins := by
 refine ⟨Nat.le_trans (h.ins j) (by omega), fun z hz => ?_⟩
 have hv := h.val
 unfold eS at hv
 rw [Bool.and_eq_true] at hv
 rcases Nat.lt_or_ge j x.blocks.length with hj | hj
 ·
  have hb := eO hv.2 hj
  unfold kQ at hb
  rw [Bool.and_eq_true] at hb
  have A := List.all_eq_true.1 hb.1 z hz
  unfold ey at A
  simp only [Bool.and_eq_true, decide_eq_true_eq] at A
  omega
 ·
  rw [dU hj] at hz; cases hz
theorem bd_set {p : List VFnT} {k : Nat} {x : VFnT} (h : bdP p) (hx : ∀ j, okI 7 (x.blocks.getD j default).ins) : bdP (p.set k x) := bdP_of fun y hy j => by
 rcases List.mem_or_eq_of_mem_set hy with hy | rfl
 ·
  exact jA h y hy j
 ·
  exact (hx j).1
theorem oki7 {m : Nat} {y : List VInT} (h : okI m y) : okI (m + 1) y := ⟨h.1, fun z hz => Nat.le_succ_of_le (h.2 z hz)⟩
theorem bd_two {p q : List VFnT} (h : bdP p) (hq : bdP q) : ∀ x ∈ [p, q], bdP x := fun x hx => by
 simp only [List.mem_cons, List.not_mem_nil, or_false] at hx
 rcases hx with rfl | rfl
 ·
  exact h
 ·
  exact hq
theorem inv_fin {X z : Option RunS} {Y A : Option OutT} (h : Y = X.map outS) (E : A = z.map outS) : ((((X.isSome != Y.isSome) || (z.isSome != A.isSome)) || (!decide (bW X = oV Y))) || (!decide (bW z = oV A))) = false := by
 subst h E; cases X <;> cases z <;> simp [bW, oV, outS]
theorem ex_c (_ : FuncId) {F : Fz} {H : Heap} {R : List Fp} (hs : HS (.of H []) F H [] R) (hT : TB 37 tabC F) : C Tryd.prog 1 (KT 60 38 37 tabC) 38 [] H fun v H' => ∃ (r : Bool), H' = H ∧ v = .bool r ∧ r = true :=
 ⟨0, .bool true, H, by unfold call jJ; rw [(hT.heap hs).known (by decide)], true, rfl, rfl, rfl⟩
theorem ex_c_q (e : FuncId) {F : Fz} {H : Heap} {R : List Fp} (hs : HS (.of H []) F H [] R) (hT : TB 37 tabC F) : C Tryd.prog 1 (KT 60 38 37 tabC) 38 [] H fun v H' => v = .bool true ∧ H' = H := cq (ex_c e hs hT) (by rintro _ _ ⟨_, rfl, rfl, rfl⟩; exact ⟨rfl, rfl⟩)
set_option maxHeartbeats 2000000 in
theorem invalid_law {a_l : Option Addr} {k_l : Nat} (l : List Int) {a_m : Option Addr} {k_m : Nat} (m : List Int) (how : Int) (at_ : Int) (fi : Int) {a_args : Option Addr} {k_args : Nat} (args : List Int) (fuel : Int) {F : Fz} {H : Heap} {R : List Fp} (hs : HS (.of H []) F H [] R) (hl : SR F (.slice a_l l.length k_l) l) (hm : SR F (.slice a_m m.length k_m) m) (hhow : in64 how) (hat_ : in64 at_) (hfi : in64 fi) (hargs : SR F (.slice a_args args.length k_args) args) (hfuel : in64 fuel) (hT : TB 37 tabC F) : C Tryd.prog 1 (KT 60 38 37 tabC) 11 [(.slice a_l l.length k_l), (.slice a_m m.length k_m), (iI how), (iI at_), (iI fi), (.slice a_args args.length k_args), (iI fuel)] H fun v H' => ∃ (r : Bool) (F' : Fz), Fz.le F F' ∧ HS (.of H []) F' H' [] R ∧ v = .bool r ∧ r = true := by
 refine aJ Tryd.func11 rfl rfl ?_
 refine ao 1 rfl ?_
 refine wR 2 [] 14 14 [] [(14, (.bool false))] trivial rfl fun _ => ?_
 refine ab ?_
 refine wRo 2 0 [] 31 32 [] [(31, (.slice a_l l.length k_l)), (32, (.slice a_m m.length k_m))] trivial rfl fun _ => ?_
 refine aC (aw rfl rfl rfl) rfl rfl (m6.vfuncs_c 38 l m (HS.call hs) hl hm hT) ?_
 rintro _ H3 ⟨b6, c9, z, b7, dd, q3, F3, g7, ea, rfl, ds, E, rfl, h3⟩
 replace ea := HS.back hs rfl ea
 have ea : HS _ _ _ [] _ := ea
 replace hT := hT.mono g7
 refine wRo 5 3 [] 34 35 [15, 16, 30] [(15, (.slice b6 z.length c9)), (16, (.slice b7 [3, 2].length dd))] trivial rfl fun _ => ?_
 refine ai 2 rfl ?_
 have h_ : z.length = 2 ∧ vfG (z.getD 0 default) 2 ∧ vfG (z.getD 1 default) 1 := by assumption
 have h_l := h_.1
 have hgn := h_.2.1
 have hgb := hgn.nb
 refine ab ?_
 refine wm (.slice b6 z.length c9) rfl rfl rfl ?_
 have f6 := HS.snoc ea
 have f6 : HS _ _ _ [[]] _ := f6
 refine aP (cT (α := VFnT) (q := 0) (OS.nil : OS F3 (.slice none 0 0) ([] : List VFnT) []) f6 rfl rfl rfl (SR.sv ds f6) rfl rfl rfl rfl rfl rfl rfl (by (simp only [List.length_nil]; omega))) rfl rfl ?_
 rintro _ H7 p6 ⟨a6, k6, rfl, b3, dk, _⟩
 have dk : HS _ _ _ [p6] _ := dk
 have b3 : OS F3 (.slice a6 z.length k6) z p6 := b3
 refine wa (.slice a6 z.length k6) rfl rfl rfl ?_
 refine ai 2 rfl ?_
 refine ab ?_
 obtain ⟨hn, ho⟩ := Sv.view (OS.sv b3 dk (i := 0) rfl)
 obtain ⟨jq, j0, hD⟩ := VFnT.fx (ho 0)
 let hq : Value := (.agg ⟨[(iI (z.getD 0 default).params), (iI (z.getD 0 default).regs), (.slice (cA (hn 0) 2) (z.getD 0 default).blocks.length (cK (hn 0) 2))]⟩)
 refine wRo 6 0 [(3, .o hq)] 38 43 [] [(38, (.slice a6 z.length k6)), (41, hq), (42, (iI how)), (43, (iI at_))] (vA (Sv.ix (j := 0) (OS.sv b3 dk (i := 0) rfl) (by decide) (by omega)) (vA (qn 24 0 3 (VFnT.vw (ho 0) (by omega)) rfl rfl rfl rfl) trivial)) rfl fun _ => ?_
 refine aC (aw rfl rfl rfl) rfl rfl (m9.mut_c 38 (z.getD 0 default) how at_ (HS.call dk) (by omega) (by omega) hD (by omega) (by omega) hT (by omega) (by exact fun j => oki7 (vfG.oki hgn j))) ?_
 rintro _ k7 ⟨ad, d2, eb, hX, a7, b2, rfl, hE, hF, f9, j1, hr⟩
 replace b2 := HS.back dk rfl b2
 have b2 : HS _ _ _ [_] _ := b2
 replace b3 := b3.mono a7
 refine wRo 1 7 [] 45 45 [] [(45, (.pointer (some ⟨sB (.slice a6 z.length k6), sO (.slice a6 z.length k6) + 0 * Rp.sz VFnT, none⟩)))] (vA (Sv.ix (j := 0) (OS.sv b3 b2 (i := 0) rfl) (by decide) (by omega)) trivial) rfl fun _ => ?_
 refine aD (de (α := VFnT) (j := 0) (off := 0) (q := 0) ad b3 b2 rfl rfl rfl rfl rfl rfl rfl rfl (aI (x := default) (by omega)) rfl (st_whole (F := hX) (Y := ad) (cl := [(iI ad.params), (iI ad.regs), (.slice d2 ad.blocks.length eb)]) ⟨d2, eb, rfl, by omega, by omega, f9⟩)) rfl ?_
 rintro _ k8 ih ⟨hb, em, _⟩
 have em : HS _ _ _ [ih] _ := em
 have i1 := OS.len' hb
 refine ai 3 rfl ?_
 have hmut := hr 6 (fun j => vfG.oki hgn j)
 refine ab ?_
 refine wRo 2 0 [] 46 47 [] [(46, (.slice b6 z.length c9)), (47, (.slice a6 z.length k6))] trivial rfl fun _ => ?_
 obtain ⟨hY, b9, es, he, j2⟩ := OS.frz hb em (i := 0) rfl
 have es : HS _ _ _ [[]] _ := es
 replace ds := (ds.mono a7).mono b9
 refine aP (bZ (α := (List VFnT)) (ps := [(0, (.slice b6 z.length c9)), (1, (.slice a6 z.length k6))]) (cells := [(.slice b6 z.length c9), (.slice a6 z.length k6)]) ([z, z.set 0 ad] : List (List VFnT)) es rfl rfl rfl (by kernel_rfl) ⟨[(.slice b6 z.length c9)], [(.slice a6 z.length k6)], rfl, ⟨b6, c9, rfl, ds⟩, ⟨[(.slice a6 z.length k6)], [], rfl, ⟨a6, k6, by rw [SR.len' he], SR.norm he⟩, rfl⟩⟩ rfl) rfl rfl ?_
 rintro _ k9 ag ⟨hk, hp, rfl, dl, et, _⟩
 have et : HS _ _ _ [_, ag] _ := et
 refine wRo 2 3 [] 49 50 [] [(49, (iI 2)), (50, (iI 0))] trivial rfl fun _ => ?_
 refine ai 2 rfl ?_
 refine aE (fun (mm : Nat) f H' => ∃ (i : Nat) (F' : Fz), Fz.le hY F' ∧ HS (Base.of H []) F' H' [[], ag] R ∧ aS f [(4, (iI fi)), (5, (.slice a_args args.length k_args)), (6, (iI fuel)), (16, (.slice b7 [3, 2].length dd)), (48, (.slice hk ([z, z.set 0 ad] : List (List VFnT)).length hp)), (49, (iI 2)), (50, (iI (i : Int)))] ∧ mm = 2 - i ∧ (i ≤ 2)) _ ⟨0, _, fR, et, ⟨rfl, rfl, rfl, rfl, rfl, rfl, rfl, trivial⟩, rfl, (by omega)⟩ ?_
 rintro kk lC h5 ⟨i, h1, a8, cv, g9, rfl, hi⟩ hA
 refine aF _ g9 (fun _ => ?_)
 clear g9
 replace hT := ((hT.mono a7).mono b9).mono a8
 replace hargs := (((hargs.mono g7).mono a7).mono b9).mono a8
 replace dl := dl.mono a8
 replace E := ((E.mono a7).mono b9).mono a8
 have hB := bd_two (bd_p h_) (bd_set (k := 0) (bd_p h_) hmut)
 have hbi := bdP_at hB i
 have hpk := dT fi 4 (by omega)
 have hpu := dT fuel 1004 (by omega)
 refine ao 1 rfl ?_
 refine wR 2 [] 51 51 [] [(51, (.bool (decide ((i : Int) < 2))))] trivial rfl fun _ => ?_
 refine aj 4 5 (v := (decide ((i : Int) < 2))) rfl rfl rfl rfl (fun g5 => ?_) (fun g5 => ?_)
 ·
  try simp only [BS] at g5
  obtain ⟨A, hf⟩ := Sv.view (OS.sv dl cv (i := 1) rfl)
  have V := fL (hf i)
  refine wR 2 [(1, .o (.slice (cA (A i) 0) (([z, z.set 0 ad] : List (List VFnT)).getD i default).length (cK (A i) 0)))] 52 53 [19] [(19, (.slice (cA (A i) 0) (([z, z.set 0 ad] : List (List VFnT)).getD i default).length (cK (A i) 0)))] (vA (Sv.ix (j := (i : Int)) (OS.sv dl cv (i := 1) rfl) (by omega) (show (i : Int) < (2 : Int) from by omega)) (vA (ql 30 0 (vL (hf i) (show i < 2 from by omega)) rfl rfl) trivial)) rfl fun _ => ?_
  generalize hq_pl : (([z, z.set 0 ad] : List (List VFnT)).getD i default) = pl at *
  refine ab ?_
  have i3 := dT fi (4 : Int)
  refine wRo 4 0 [(2, .o (iI (aQ fi (4 : Int))))] 54 57 [] [(54, (iI fi)), (57, (iI ((aQ fi (4 : Int)) - 1)))] (vA (m1.ef 38 fi (4) h5 (by omega)) (vA (vi (n := (aQ fi (4 : Int)) - 1) (by omega)) trivial)) rfl fun _ => ?_
  refine aP (bZ (α := Int) (ps := [(0, (iI fi)), (1, (iI ((aQ fi (4 : Int)) - 1)))]) (cells := [(iI fi), (iI ((aQ fi (4 : Int)) - 1))]) ([fi, (aQ fi (4 : Int)) - 1] : List Int) cv rfl rfl rfl (by kernel_rfl) ⟨[(iI fi)], [(iI ((aQ fi (4 : Int)) - 1))], rfl, ⟨rfl, by omega⟩, ⟨[(iI ((aQ fi (4 : Int)) - 1))], [], rfl, ⟨rfl, by omega⟩, rfl⟩⟩ rfl) rfl rfl ?_
  rintro _ la b4 ⟨h8, h9, rfl, dn, ex, _⟩
  have ex : HS _ _ _ [[], ag, b4] _ := ex
  refine wRo 2 5 [] 59 60 [] [(59, (iI 2)), (60, (iI 0))] trivial rfl fun _ => ?_
  refine ai 2 rfl ?_
  refine aE (fun (mm : Nat) f H' => ∃ (j : Nat) (F' : Fz), Fz.le h1 F' ∧ HS (Base.of H []) F' H' [[], ag, b4] R ∧ aS f [(4, (iI fi)), (5, (.slice a_args args.length k_args)), (6, (iI fuel)), (16, (.slice b7 [3, 2].length dd)), (19, (.slice (cA (A i) 0) pl.length (cK (A i) 0))), (48, (.slice hk ([z, z.set 0 ad] : List (List VFnT)).length hp)), (49, (iI 2)), (50, (iI (i : Int))), (51, (.bool (decide ((i : Int) < 2)))), (54, (iI fi)), (57, (iI ((aQ fi (4 : Int)) - 1))), (58, (.slice h8 ([fi, (aQ fi (4 : Int)) - 1] : List Int).length h9)), (59, (iI 2)), (60, (iI (j : Int)))] ∧ mm = 2 - j ∧ (j ≤ 2)) _ ⟨0, _, fR, ex, ⟨rfl, rfl, rfl, rfl, rfl, rfl, rfl, rfl, rfl, rfl, rfl, rfl, rfl, rfl, trivial⟩, rfl, (by omega)⟩ ?_
  rintro kl lD ld ⟨j, kn, ap, c0, ha, rfl, hj⟩ hC
  refine aF _ ha (fun _ => ?_)
  clear ha
  replace hT := hT.mono ap
  replace hargs := hargs.mono ap
  replace dn := dn.mono ap
  replace E := E.mono ap
  replace V := V.mono ap
  refine ao 1 rfl ?_
  refine wR 2 [] 61 61 [] [(61, (.bool (decide ((j : Int) < 2))))] trivial rfl fun _ => ?_
  refine aj 4 5 (v := (decide ((j : Int) < 2))) rfl rfl rfl rfl (fun g6 => ?_) (fun g6 => ?_)
  ·
   try simp only [BS] at g6
   obtain ⟨i2, hg⟩ := Sv.view (OS.sv dn c0 (i := 2) rfl)
   have lE := fI (hg j)
   refine wR 2 [(1, .o (iI (([fi, (aQ fi (4 : Int)) - 1] : List Int).getD j 0)))] 62 63 [21] [(21, (iI (([fi, (aQ fi (4 : Int)) - 1] : List Int).getD j 0)))] (vA (Sv.ix (j := (j : Int)) (OS.sv dn c0 (i := 2) rfl) (by omega) (show (j : Int) < (2 : Int) from by omega)) (vA (ql 3 0 (vI (hg j) (show j < 2 from by omega)) rfl rfl) trivial)) rfl fun _ => ?_
   generalize hq_gj : (([fi, (aQ fi (4 : Int)) - 1] : List Int).getD j 0) = gj at *
   refine ab ?_
   refine wRo 5 0 [] 65 69 [] [(65, (.slice (cA (A i) 0) pl.length (cK (A i) 0))), (66, (.slice b7 [3, 2].length dd)), (67, (iI gj)), (68, (.slice a_args args.length k_args)), (69, (iI fuel))] trivial rfl fun _ => ?_
   refine aC (aw rfl rfl rfl) rfl rfl (ir.vrun_c 38 pl [3, 2] gj args fuel (60) (HS.call c0) V E (by omega) hargs (by omega) (by omega) hT (by omega) (by exact ⟨(by decide : ([3, 2] : List Int).length ≤ 1073741824), fun k j => Nat.le_trans (hbi k j) (by omega)⟩) (by exact fun c hc k => Nat.le_trans (jA hbi c hc k) (by omega))) ?_
   rintro _ lf ⟨lS, ar, a2, lM, kp, cd, c3, rfl, hG, hH, hI, bl, rfl, rfl, lG⟩
   replace c3 := HS.back c0 rfl c3
   have c3 : HS _ _ _ [[], ag, b4] _ := c3
   replace hT := hT.mono cd
   replace hargs := hargs.mono cd
   replace E := E.mono cd
   replace V := V.mono cd
   refine wRo 3 6 [] 71 72 [64] [(71, (.agg ⟨[(iI (bW (eQ pl [3, 2] gj args fuel (60 : Int))).kind), (iI (bW (eQ pl [3, 2] gj args fuel (60 : Int))).code), (.slice ar (bW (eQ pl [3, 2] gj args fuel (60 : Int))).out.length a2), (iI (bW (eQ pl [3, 2] gj args fuel (60 : Int))).val)]⟩)), (72, (.bool (eQ pl [3, 2] gj args fuel (60 : Int)).isSome))] trivial rfl fun _ => ?_
   refine aP (bp c3 rfl) rfl rfl ?_
   rintro _ lh _ ⟨g1, rfl, ez, _⟩
   have ez : HS _ _ _ [_, _, _, [(g1, .cells [(iI 0), (iI 0), (.slice none 0 0), (iI 0)] none false)]] _ := ez
   refine aD (ax (q := 3) ez rfl rfl rfl rfl rfl rfl rfl rfl rfl) rfl ?_
   rintro _ lj _ ⟨dt, _⟩
   have dt : HS _ _ _ [_, _, _, [(g1, .cells [(iI (bW (eQ pl [3, 2] gj args fuel (60 : Int))).kind), (iI (bW (eQ pl [3, 2] gj args fuel (60 : Int))).code), (.slice ar (bW (eQ pl [3, 2] gj args fuel (60 : Int))).out.length a2), (iI (bW (eQ pl [3, 2] gj args fuel (60 : Int))).val)] none false)]] _ := dt
   refine wa (.bool (eQ pl [3, 2] gj args fuel (60 : Int)).isSome) rfl rfl rfl ?_
   refine ai 2 rfl ?_
   generalize hq_oa : eQ pl [3, 2] gj args fuel (60 : Int) = oa at *
   refine ab ?_
   refine wRo 5 0 [] 74 78 [] [(74, (.slice (cA (A i) 0) pl.length (cK (A i) 0))), (75, (.slice b7 [3, 2].length dd)), (76, (iI gj)), (77, (.slice a_args args.length k_args)), (78, (iI fuel))] trivial rfl fun _ => ?_
   refine aC (aw rfl rfl rfl) rfl rfl (je.rrun_c 38 pl [3, 2] gj args fuel (60) (HS.call dt) V E (by omega) hargs (by omega) (by omega) hT (by omega) (by exact ⟨(by decide : ([3, 2] : List Int).length ≤ 1073741824), fun k j => Nat.le_trans (hbi k j) (by omega)⟩) (by exact fun c hc k => Nat.le_trans (jA hbi c hc k) (by omega))) ?_
   rintro _ ll ⟨lT, av, a3, lN, kr, ch, c4, rfl, hK, hM, hN, b0, rfl, rfl, lH⟩
   replace c4 := HS.back dt rfl c4
   let ec : Fp := [(g1, .cells [(iI (bW oa).kind), (iI (bW oa).code), (.slice ar (bW oa).out.length a2), (iI (bW oa).val)] none false)]
   have c4 : HS _ _ _ [[], ag, b4, ec] _ := c4
   refine wRo 3 6 [] 80 81 [73] [(80, (.agg ⟨[(iI (oV (ep pl [3, 2] gj args fuel (60 : Int))).kind), (iI (oV (ep pl [3, 2] gj args fuel (60 : Int))).code), (.slice av (oV (ep pl [3, 2] gj args fuel (60 : Int))).out.length a3), (iI (oV (ep pl [3, 2] gj args fuel (60 : Int))).val)]⟩)), (81, (.bool (ep pl [3, 2] gj args fuel (60 : Int)).isSome))] trivial rfl fun _ => ?_
   refine aP (bp c4 rfl) rfl rfl ?_
   rintro _ lm _ ⟨g2, rfl, e0, _⟩
   have e0 : HS _ _ _ [_, _, _, _, [(g2, .cells [(iI 0), (iI 0), (.slice none 0 0), (iI 0)] none false)]] _ := e0
   refine aD (ax (q := 4) e0 rfl rfl rfl rfl rfl rfl rfl rfl rfl) rfl ?_
   rintro _ ln _ ⟨e1, _⟩
   have e1 : HS _ _ _ [_, _, _, _, [(g2, .cells [(iI (oV (ep pl [3, 2] gj args fuel (60 : Int))).kind), (iI (oV (ep pl [3, 2] gj args fuel (60 : Int))).code), (.slice av (oV (ep pl [3, 2] gj args fuel (60 : Int))).out.length a3), (iI (oV (ep pl [3, 2] gj args fuel (60 : Int))).val)] none false)]] _ := e1
   refine wa (.bool (ep pl [3, 2] gj args fuel (60 : Int)).isSome) rfl rfl rfl ?_
   refine ai 2 rfl ?_
   generalize hq_ob : ep pl [3, 2] gj args fuel (60 : Int) = ob at *
   refine ab ?_
   refine wRo 3 0 [] 83 85 [] [(83, (.slice (cA (A i) 0) pl.length (cK (A i) 0))), (84, (.slice b7 [3, 2].length dd)), (85, (iI gj))] trivial rfl fun _ => ?_
   refine aP (bZ (α := Int) (ps := [(0, (iI 1)), (1, (iI 2))]) (cells := [(iI 1), (iI 2)]) ([1, 2] : List Int) e1 rfl rfl rfl (by kernel_rfl) ⟨[(iI 1)], [(iI 2)], rfl, ⟨rfl, by omega⟩, ⟨[(iI 2)], [], rfl, ⟨rfl, by omega⟩, rfl⟩⟩ rfl) rfl rfl ?_
   rintro _ h6 ii ⟨lA, lK, rfl, hv, e2, _⟩
   let f7 : Fp := [(g2, .cells [(iI (oV ob).kind), (iI (oV ob).code), (.slice av (oV ob).out.length a3), (iI (oV ob).val)] none false)]
   have e2 : HS _ _ _ [[], ag, b4, ec, f7, ii] _ := e2
   have jb := dT fuel (1004 : Int)
   refine wRo 3 4 [(5, .o (iI (aQ fuel (1004 : Int))))] 87 89 [] [(89, (iI ((aQ fuel (1004 : Int)) - 2)))] (vA (m1.ef 38 fuel (1004) h6 (by omega)) (vA (vi (n := (aQ fuel (1004 : Int)) - 2) (by omega)) trivial)) rfl fun _ => ?_
   obtain ⟨kt, a9, dv, hx, kd⟩ := OS.frz hv e2 (i := 5) rfl
   have dv : HS _ _ _ [_, _, _, _, _, []] _ := dv
   replace hT := (hT.mono ch).mono a9
   replace E := (E.mono ch).mono a9
   replace V := (V.mono ch).mono a9
   refine aC (aw rfl rfl rfl) rfl rfl (ir.vrun_c 38 pl [3, 2] gj ([1, 2] : List Int) ((aQ fuel (1004 : Int)) - 2) (60) (HS.call dv) V E (by omega) hx (by omega) (by omega) hT (by omega) (by exact ⟨(by decide : ([3, 2] : List Int).length ≤ 1073741824), fun k j => Nat.le_trans (hbi k j) (by omega)⟩) (by exact fun c hc k => Nat.le_trans (jA hbi c hc k) (by omega))) ?_
   rintro _ lp ⟨lU, a0, a4, lO, kv, bb, c5, rfl, hP, hQ, hR, T, rfl, rfl, lI⟩
   replace c5 := HS.back dv rfl c5
   have c5 : HS _ _ _ [_, _, _, _, _, _] _ := c5
   refine wRo 3 8 [] 91 92 [82] [(91, (.agg ⟨[(iI ((bW (eQ pl [3, 2] gj ([1, 2] : List Int) ((aQ fuel (1004 : Int)) - 2) (60 : Int))).kind)), (iI ((bW (eQ pl [3, 2] gj ([1, 2] : List Int) ((aQ fuel (1004 : Int)) - 2) (60 : Int))).code)), (.slice a0 ((bW (eQ pl [3, 2] gj ([1, 2] : List Int) ((aQ fuel (1004 : Int)) - 2) (60 : Int))).out).length a4), (iI ((bW (eQ pl [3, 2] gj ([1, 2] : List Int) ((aQ fuel (1004 : Int)) - 2) (60 : Int))).val))]⟩)), (92, (.bool ((eQ pl [3, 2] gj ([1, 2] : List Int) ((aQ fuel (1004 : Int)) - 2) (60 : Int)).isSome)))] trivial rfl fun _ => ?_
   refine aP (bp c5 rfl) rfl rfl ?_
   rintro _ lq _ ⟨g3, rfl, e3, _⟩
   have e3 : HS _ _ _ [_, _, _, _, _, _, [(g3, .cells [(iI 0), (iI 0), (.slice none 0 0), (iI 0)] none false)]] _ := e3
   refine aD (ax (q := 6) e3 rfl rfl rfl rfl rfl rfl rfl rfl rfl) rfl ?_
   rintro _ lr _ ⟨e4, _⟩
   have e4 : HS _ _ _ [_, _, _, _, _, _, [(g3, .cells [(iI ((bW (eQ pl [3, 2] gj ([1, 2] : List Int) ((aQ fuel (1004 : Int)) - 2) (60 : Int))).kind)), (iI ((bW (eQ pl [3, 2] gj ([1, 2] : List Int) ((aQ fuel (1004 : Int)) - 2) (60 : Int))).code)), (.slice a0 ((bW (eQ pl [3, 2] gj ([1, 2] : List Int) ((aQ fuel (1004 : Int)) - 2) (60 : Int))).out).length a4), (iI ((bW (eQ pl [3, 2] gj ([1, 2] : List Int) ((aQ fuel (1004 : Int)) - 2) (60 : Int))).val))] none false)]] _ := e4
   refine wa (.bool ((eQ pl [3, 2] gj ([1, 2] : List Int) ((aQ fuel (1004 : Int)) - 2) (60 : Int)).isSome)) rfl rfl rfl ?_
   refine ai 2 rfl ?_
   generalize hq_oc : eQ pl [3, 2] gj ([1, 2] : List Int) ((aQ fuel (1004 : Int)) - 2) (60 : Int) = oc at *
   refine ab ?_
   refine wRo 3 0 [] 94 96 [] [(94, (.slice (cA (A i) 0) pl.length (cK (A i) 0))), (95, (.slice b7 [3, 2].length dd)), (96, (iI gj))] trivial rfl fun _ => ?_
   refine aP (bZ (α := Int) (ps := [(0, (iI 1)), (1, (iI 2))]) (cells := [(iI 1), (iI 2)]) ([1, 2] : List Int) e4 rfl rfl rfl (by kernel_rfl) ⟨[(iI 1)], [(iI 2)], rfl, ⟨rfl, by omega⟩, ⟨[(iI 2)], [], rfl, ⟨rfl, by omega⟩, rfl⟩⟩ rfl) rfl rfl ?_
   rintro _ h7 iv ⟨lB, lL, rfl, hw, e5, _⟩
   let f2 : Fp := [(g3, .cells [(iI (bW oc).kind), (iI (bW oc).code), (.slice a0 (bW oc).out.length a4), (iI (bW oc).val)] none false)]
   have e5 : HS _ _ _ [[], ag, b4, ec, f7, [], f2, iv] _ := e5
   refine wRo 3 4 [(5, .o (iI (aQ fuel (1004 : Int))))] 98 100 [] [(100, (iI ((aQ fuel (1004 : Int)) - 2)))] (vA (m1.ef 38 fuel (1004) h7 (by omega)) (vA (vi (n := (aQ fuel (1004 : Int)) - 2) (by omega)) trivial)) rfl fun _ => ?_
   obtain ⟨k0, aq, d1, hy, ki⟩ := OS.frz hw e5 (i := 7) rfl
   have d1 : HS _ _ _ [_, _, _, _, _, _, _, []] _ := d1
   replace hT := (hT.mono bb).mono aq
   replace E := (E.mono bb).mono aq
   replace V := (V.mono bb).mono aq
   refine aC (aw rfl rfl rfl) rfl rfl (je.rrun_c 38 pl [3, 2] gj ([1, 2] : List Int) ((aQ fuel (1004 : Int)) - 2) (60) (HS.call d1) V E (by omega) hy (by omega) (by omega) hT (by omega) (by exact ⟨(by decide : ([3, 2] : List Int).length ≤ 1073741824), fun k j => Nat.le_trans (hbi k j) (by omega)⟩) (by exact fun c hc k => Nat.le_trans (jA hbi c hc k) (by omega))) ?_
   rintro _ lu ⟨lV, a1, a5, lP, h4, ci, c6, rfl, hS, hV, hW, b1, rfl, rfl, lJ⟩
   replace c6 := HS.back d1 rfl c6
   have c6 : HS _ _ _ [_, _, _, _, _, _, _, _] _ := c6
   replace hT := hT.mono ci
   replace bl := ((((bl.mono ch).mono a9).mono bb).mono aq).mono ci
   replace b0 := (((b0.mono a9).mono bb).mono aq).mono ci
   replace T := (T.mono aq).mono ci
   refine wRo 3 8 [] 102 103 [93] [(102, (.agg ⟨[(iI ((oV (ep pl [3, 2] gj ([1, 2] : List Int) ((aQ fuel (1004 : Int)) - 2) (60 : Int))).kind)), (iI ((oV (ep pl [3, 2] gj ([1, 2] : List Int) ((aQ fuel (1004 : Int)) - 2) (60 : Int))).code)), (.slice a1 ((oV (ep pl [3, 2] gj ([1, 2] : List Int) ((aQ fuel (1004 : Int)) - 2) (60 : Int))).out).length a5), (iI ((oV (ep pl [3, 2] gj ([1, 2] : List Int) ((aQ fuel (1004 : Int)) - 2) (60 : Int))).val))]⟩)), (103, (.bool ((ep pl [3, 2] gj ([1, 2] : List Int) ((aQ fuel (1004 : Int)) - 2) (60 : Int)).isSome)))] trivial rfl fun _ => ?_
   refine aP (bp c6 rfl) rfl rfl ?_
   rintro _ lv _ ⟨g4, rfl, e6, _⟩
   have e6 : HS _ _ _ [_, _, _, _, _, _, _, _, [(g4, .cells [(iI 0), (iI 0), (.slice none 0 0), (iI 0)] none false)]] _ := e6
   refine aD (ax (q := 8) e6 rfl rfl rfl rfl rfl rfl rfl rfl rfl) rfl ?_
   rintro _ lw _ ⟨Z, _⟩
   have Z : HS _ _ _ [_, _, _, _, _, _, _, _, [(g4, .cells [(iI ((oV (ep pl [3, 2] gj ([1, 2] : List Int) ((aQ fuel (1004 : Int)) - 2) (60 : Int))).kind)), (iI ((oV (ep pl [3, 2] gj ([1, 2] : List Int) ((aQ fuel (1004 : Int)) - 2) (60 : Int))).code)), (.slice a1 ((oV (ep pl [3, 2] gj ([1, 2] : List Int) ((aQ fuel (1004 : Int)) - 2) (60 : Int))).out).length a5), (iI ((oV (ep pl [3, 2] gj ([1, 2] : List Int) ((aQ fuel (1004 : Int)) - 2) (60 : Int))).val))] none false)]] _ := Z
   refine wa (.bool ((ep pl [3, 2] gj ([1, 2] : List Int) ((aQ fuel (1004 : Int)) - 2) (60 : Int)).isSome)) rfl rfl rfl ?_
   refine ai 2 rfl ?_
   generalize hq_od : ep pl [3, 2] gj ([1, 2] : List Int) ((aQ fuel (1004 : Int)) - 2) (60 : Int) = od at *
   let hh : Fp := [(g4, .cells [(iI (oV od).kind), (iI (oV od).code), (.slice a1 (oV od).out.length a5), (iI (oV od).val)] none false)]
   refine wk_rcut 104 123 [] [(123, (.bool ((((oa.isSome != ob.isSome) || (oc.isSome != od.isSome)) || (!(decide ((bW oa) = (oV ob))))) || (!(decide ((bW oc) = (oV od)))))))] (fun H' => ∃ F', Fz.le h4 F' ∧ HS (Base.of H []) F' H' [[], ag, b4, ec, f7, [], f2, [], hh] R) ?_ ?_
   ·
    refine ab ?_
    refine wm (.bool oa.isSome) rfl rfl rfl ?_
    refine wm (.bool ob.isSome) rfl rfl rfl ?_
    refine bG (v := (.bool (oa.isSome != ob.isSome))) (jB rfl rfl (fun a b => by cases a <;> cases b <;> kernel_rfl)) rfl rfl ?_
    refine wm (.bool (oa.isSome != ob.isSome)) rfl rfl rfl ?_
    refine wo_gsF (v := (oa.isSome != ob.isSome)) rfl rfl (fun J => ?_) (fun J => ?_)
    ·
     have e9 := J
     try simp only [BS] at e9
     refine wm (.bool oc.isSome) rfl rfl rfl ?_
     refine fD rfl J ?_
     refine wm (.bool od.isSome) rfl rfl rfl ?_
     refine fD rfl J ?_
     refine bG (v := (.bool (oc.isSome != od.isSome))) (jB rfl rfl (fun a b => by cases a <;> cases b <;> kernel_rfl)) rfl rfl ?_
     refine bG (v := (.bool (oc.isSome != od.isSome))) (gB rfl J rfl) rfl rfl ?_
     refine wm (.bool (oc.isSome != od.isSome)) rfl rfl rfl ?_
     refine wo_gsF (v := (oc.isSome != od.isSome)) rfl rfl (fun I => ?_) (fun I => ?_)
     ·
      have fd := I
      try simp only [BS] at fd
      refine bG (v := (.agg ⟨[(iI (bW oa).kind), (iI (bW oa).code), (.slice ar (bW oa).out.length a2), (iI (bW oa).val)]⟩)) (fk (i := 0) rfl rfl rfl (HS.hc Z (i := 3) rfl) rfl rfl rfl) rfl rfl ?_
      refine fD rfl I ?_
      refine bG (v := (.agg ⟨[(iI (oV ob).kind), (iI (oV ob).code), (.slice av (oV ob).out.length a3), (iI (oV ob).val)]⟩)) (fk (i := 0) rfl rfl rfl (HS.hc Z (i := 4) rfl) rfl rfl rfl) rfl rfl ?_
      refine fD rfl I ?_
      refine aC (aw rfl rfl rfl) rfl rfl (it.same_c 38 (bW oa) (oV ob) (HS.call Z) (by omega) (by omega) bl (by omega) (by omega) (by omega) b0 (by omega) hT (by omega)) ?_
      rintro _ ly ⟨lQ, k4, co, U, rfl, rfl⟩
      replace U := HS.back Z rfl U
      have U : HS _ _ _ [[], ag, b4, ec, f7, [], f2, [], hh] _ := U
      replace hT := hT.mono co
      replace T := T.mono co
      replace b1 := b1.mono co
      refine fD rfl I ?_
      refine bG (v := (.bool (!(decide ((bW oa) = (oV ob)))))) (ap_not rfl) rfl rfl ?_
      refine bG (v := (.bool (!(decide ((bW oa) = (oV ob)))))) (gB rfl I rfl) rfl rfl ?_
      refine wm (.bool (!(decide ((bW oa) = (oV ob))))) rfl rfl rfl ?_
      refine wo_gsF (v := (!(decide ((bW oa) = (oV ob))))) rfl rfl (fun O => ?_) (fun O => ?_)
      ·
       have f1 := O
       try simp only [BS] at f1
       refine bG (v := (.agg ⟨[(iI (bW oc).kind), (iI (bW oc).code), (.slice a0 (bW oc).out.length a4), (iI (bW oc).val)]⟩)) (fk (i := 0) rfl rfl rfl (HS.hc U (i := 6) rfl) rfl rfl rfl) rfl rfl ?_
       refine fD rfl O ?_
       refine bG (v := (.agg ⟨[(iI (oV od).kind), (iI (oV od).code), (.slice a1 (oV od).out.length a5), (iI (oV od).val)]⟩)) (fk (i := 0) rfl rfl rfl (HS.hc U (i := 8) rfl) rfl rfl rfl) rfl rfl ?_
       refine fD rfl O ?_
       refine aC (aw rfl rfl rfl) rfl rfl (it.same_c 38 (bW oc) (oV od) (HS.call U) (by omega) (by omega) T (by omega) (by omega) (by omega) b1 (by omega) hT (by omega)) ?_
       rintro _ lz ⟨lR, k5, hu, c7, rfl, rfl⟩
       replace c7 := HS.back U rfl c7
       have c7 : HS _ _ _ [_, _, _, _, _, _, _, _, _] _ := c7
       refine fD rfl O ?_
       refine bG (v := (.bool (!(decide ((bW oc) = (oV od)))))) (ap_not rfl) rfl rfl ?_
       refine bG (v := (.bool (!(decide ((bW oc) = (oV od)))))) (gB rfl O rfl) rfl rfl ?_
       refine gf ?_
       exact am ⟨rfl, ⟨_, (fT (fT fR co) hu), HS.sub c7 (List.Sublist.refl _)⟩, (Lu rfl (Lu rfl (Lu rfl (Lu rfl (Lu rfl (Lu rfl (Lu rfl (Lu rfl (Lu rfl (Lu rfl (Lu rfl (Lu rfl (Lu rfl (Lu rfl (Lu rfl (Lu rfl (Lu rfl (Lu rfl (Lu rfl (Lu rfl Lr)))))))))))))))))))), (agC (congrArg Value.bool (show (!(decide ((bW oc) = (oV od)))) = ((((oa.isSome != ob.isSome) || (oc.isSome != od.isSome)) || (!(decide ((bW oa) = (oV ob))))) || (!(decide ((bW oc) = (oV od))))) by simp only [↓J, ↓I, ↓O, BT])) agN)⟩
      ·
       have f1 := O
       try simp only [BS] at f1
       refine bV rfl O rfl ?_
       refine bV rfl O rfl ?_
       refine bV rfl O rfl ?_
       refine bG (v := (.bool true)) (dY rfl O rfl) rfl rfl ?_
       refine gf ?_
       exact am ⟨rfl, ⟨_, (fT fR co), HS.sub U (List.Sublist.refl _)⟩, (Lu rfl (Lu rfl (Lu rfl (Lu rfl (Lu rfl (Lu rfl (Lu rfl (Lu rfl (Lu rfl (Lu rfl (Lu rfl (Lu rfl (Lu rfl (Lu rfl (Lu rfl (Lu rfl (Lu rfl (Lu rfl (Lu rfl (Lu rfl Lr)))))))))))))))))))), (agC (congrArg Value.bool (show true = ((((oa.isSome != ob.isSome) || (oc.isSome != od.isSome)) || (!(decide ((bW oa) = (oV ob))))) || (!(decide ((bW oc) = (oV od))))) by simp only [↓J, ↓I, ↓O, BT])) agN)⟩
     ·
      have fd := I
      try simp only [BS] at fd
      refine bV rfl I rfl ?_
      refine bV rfl I rfl ?_
      refine bV rfl I rfl ?_
      refine bG (v := (.bool true)) (dY rfl I rfl) rfl rfl ?_
      refine wm (.bool true) rfl rfl rfl ?_
      refine bV rfl rfl rfl ?_
      refine bV rfl rfl rfl ?_
      refine bV rfl rfl rfl ?_
      refine bV rfl rfl rfl ?_
      refine bG (v := (.bool true)) (dY rfl rfl rfl) rfl rfl ?_
      refine gf ?_
      exact am ⟨rfl, ⟨_, fR, HS.sub Z (List.Sublist.refl _)⟩, (Lu rfl (Lu rfl (Lu rfl (Lu rfl (Lu rfl (Lu rfl (Lu rfl (Lu rfl (Lu rfl (Lu rfl (Lu rfl (Lu rfl (Lu rfl (Lu rfl (Lu rfl (Lu rfl (Lu rfl (Lu rfl (Lu rfl (Lu rfl Lr)))))))))))))))))))), (agC (congrArg Value.bool (show true = ((((oa.isSome != ob.isSome) || (oc.isSome != od.isSome)) || (!(decide ((bW oa) = (oV ob))))) || (!(decide ((bW oc) = (oV od))))) by simp only [↓J, ↓I, BT])) agN)⟩
    ·
     have e9 := J
     try simp only [BS] at e9
     refine bV rfl J rfl ?_
     refine bV rfl J rfl ?_
     refine bG (v := (.bool true)) (dY rfl J rfl) rfl rfl ?_
     refine wm (.bool true) rfl rfl rfl ?_
     refine bV rfl rfl rfl ?_
     refine bV rfl rfl rfl ?_
     refine bV rfl rfl rfl ?_
     refine bV rfl rfl rfl ?_
     refine bG (v := (.bool true)) (dY rfl rfl rfl) rfl rfl ?_
     refine wm (.bool true) rfl rfl rfl ?_
     refine bV rfl rfl rfl ?_
     refine bV rfl rfl rfl ?_
     refine bV rfl rfl rfl ?_
     refine bV rfl rfl rfl ?_
     refine bG (v := (.bool true)) (dY rfl rfl rfl) rfl rfl ?_
     refine gf ?_
     exact am ⟨rfl, ⟨_, fR, HS.sub Z (List.Sublist.refl _)⟩, (Lu rfl (Lu rfl (Lu rfl (Lu rfl (Lu rfl (Lu rfl (Lu rfl (Lu rfl (Lu rfl (Lu rfl (Lu rfl (Lu rfl (Lu rfl (Lu rfl (Lu rfl (Lu rfl (Lu rfl (Lu rfl (Lu rfl (Lu rfl Lr)))))))))))))))))))), (agC (congrArg Value.bool (show true = ((((oa.isSome != ob.isSome) || (oc.isSome != od.isSome)) || (!(decide ((bW oa) = (oV ob))))) || (!(decide ((bW oc) = (oV od))))) by simp only [↓J, BT])) agN)⟩
   ·
    rintro lF lx ⟨k3, ht, hz⟩
    refine ao 1 rfl ?_
    refine wk_iff 2 (v := ((((oa.isSome != ob.isSome) || (oc.isSome != od.isSome)) || (!(decide ((bW oa) = (oV ob))))) || (!(decide ((bW oc) = (oV od)))))) rfl (by exact inv_fin (by rw [← hq_oa, ← hq_ob]; exact ref_eq) (by rw [← hq_oc, ← hq_od]; exact ref_eq)) rfl rfl ?_
    refine wR 1 [] 60 60 [124] [(60, (iI ((j : Int) + 1)))] (vA (vi (n := (j : Int) + 1) (by omega)) trivial) rfl fun _ => ?_
    refine hC _ _ _ ?_ ⟨j + 1, _, (fT (fT (fT (fT (fT (fT (fT (ap) cd) ch) a9) bb) aq) ci) ht), (HS.sub hz (List.sublist_append_left _ _)), ⟨rfl, rfl, rfl, rfl, rfl, rfl, rfl, rfl, rfl, rfl, rfl, rfl, rfl, rfl, trivial⟩, rfl, (by omega)⟩
    omega
  ·
   try simp only [BS] at g6
   refine wR 1 [] 50 50 [125] [(50, (iI ((i : Int) + 1)))] (vA (vi (n := (i : Int) + 1) (by omega)) trivial) rfl fun _ => ?_
   refine hA _ _ _ ?_ ⟨i + 1, _, (fT (a8) ap), (HS.sub c0 (List.sublist_append_left _ _)), ⟨rfl, rfl, rfl, rfl, rfl, rfl, rfl, trivial⟩, rfl, (by omega)⟩
   omega
 ·
  try simp only [BS] at g5
  refine wR 1 [(0, .o (.bool true))] 14 14 [126] [(14, (.bool true))] (vA (ex_c_q 38 (HS.call cv) hT) trivial) rfl fun _ => ?_
  refine ah ⟨.inr rfl, _, rfl, true, _, (fT (fT (fT (g7) a7) b9) a8), (HS.forget cv), rfl, (by rfl)⟩
end Go.Proofs.YtlabedbmgmfbaaaDoor.li
