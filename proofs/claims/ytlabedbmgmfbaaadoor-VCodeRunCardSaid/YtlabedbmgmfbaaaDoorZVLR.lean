/-
 The law that the program and the reference run virtual code alike, by a symbolic run. No condition but that the table lies as laid.
-/
import Derived.Test.YtlabedbmgmfbaaaDoorZVJE
import Derived.Test.YtlabedbmgmfbaaaDoorZVJF
noncomputable section
namespace Go.Proofs.YtlabedbmgmfbaaaDoor.lr
open Go.R
set_option maxRecDepth 10000
set_option linter.unusedVariables false
open m1 m2 m3 m4 m5 m6 m7 m8 iw ia ib ic is_ id_ ir it ja jw jc jd je jf
def bdP (l : List VFnT) : Prop := ∀ k j, ((l.getD k default).blocks.getD j default).ins.length ≤ 1000
theorem gX {l : List VFnT} (h : bdP l) : ∀ x ∈ l, ∀ j, (x.blocks.getD j default).ins.length ≤ 1000 := fun x hx j => by
 obtain ⟨k, hk, rfl⟩ := List.mem_iff_getElem.1 hx
 have := h k j
 rwa [List.getD_eq_getElem?_getD (l := l), List.getElem?_eq_getElem hk] at this
theorem bd_p {p : List VFnT} (h : p.length = 2 ∧ vfG (p.getD 0 default) 2 ∧ vfG (p.getD 1 default) 1) : bdP p := fun k j => by
 rcases Nat.lt_or_ge k 2 with hk | hk
 ·
  have : k = 0 ∨ k = 1 := by omega
  rcases this with rfl | rfl
  ·
   exact Nat.le_trans (h.2.1.ins j) (by omega)
  ·
   exact Nat.le_trans (h.2.2.ins j) (by omega)
 ·
  have z := h.1
  rw [fA (l := p) (by omega)]; exact Nat.zero_le _
theorem g_at {p : List VFnT} (h : p.length = 2 ∧ vfG (p.getD 0 default) 2 ∧ vfG (p.getD 1 default) 1) {k : Nat} (hk : k < 2) : ∃ n, 0 ≤ n ∧ n ≤ 2 ∧ vfG (p.getD k default) n := by
 have : k = 0 ∨ k = 1 := by omega
 rcases this with rfl | rfl
 ·
  exact ⟨2, by omega, by omega, h.2.1⟩
 ·
  exact ⟨1, by omega, by omega, h.2.2⟩
def outS (s : RunS) : OutT := ⟨s.kind, s.code, s.out, s.val⟩
theorem ref_eq {P : List VFnT} {lens : List Int} {f : Int} {args : List Int} {fuel most : Int} : bZ P lens f args fuel most = (cm P lens f args fuel most).map outS := by
 by_cases h : okR P lens f args fuel
 ·
  have hp := jm h.1
  have hm := fY (P := P) ⟨h.2.1, h.2.2.1⟩
  have hl := hp.lim _ hm
  have hr := jz hp (most.toNat + 2) (iniI lens fuel most) (P.getD f.toNat default) (List.replicate (P.getD f.toNat default).regs.toNat 0) [] args 0 0 [] 0 (Nat.lt_succ_self _) rfl rfl hm ⟨Int.le_refl 0, by omega⟩ (Nat.zero_le _) (rge_zero hl.2.2.1)
  have J : goV P (most.toNat + 2) (iniI lens fuel most) (P.getD f.toNat default) (List.replicate (P.getD f.toNat default).regs.toNat 0) args 0 0 = cb P (iniI lens fuel most) f args := rfl
  have O : Mst (iniI lens fuel most) [] ⟨P.getD f.toNat default, [], args, 0, ((0 : Nat) : Int), 0⟩ = iniV P lens f args fuel := rfl
  rw [J, O] at hr
  have T : (iniI lens fuel most).most.toNat = most.toNat := rfl
  rw [T] at hr
  generalize ht : cb P (iniI lens fuel most) f args = t at hr
  cases hlg : t.1.long with
  | true => rw [← jk h ht.symm hlg, ← gk rfl (hr.long hlg)]; rfl
  | false =>
   cases hov : t.1.over with
   | true =>
    obtain ⟨j, U, I, A, E, V, Z⟩ := hr.over hlg hov
    have z := jx I (most.toNat - j)
    rw [show j + (most.toNat - j) = most.toNat by omega] at z
    rw [← jj h ht.symm hlg hov, ← gK h rfl (by rw [z]; exact I), z]
    show some _ = some (outS _)
    unfold outS
    rw [A, E, V, Z]
   | false =>
    obtain ⟨j, top, U, I, A⟩ := hr.ret hlg hov
    have eb : cH (Mst t.1 [] top) t.2 = aE (Mst t.1 [] top) 1 0 t.2 := by unfold cH; rw [if_pos (show (Mst t.1 [] top).low = [] from rfl)]
    rw [eb] at A
    have E : (itV P j (iniV P lens f args fuel)).over = true := by rw [A]
    have z := jx E (most.toNat - j)
    rw [show j + (most.toNat - j) = most.toNat by omega] at z
    rw [← rf_ret h ht.symm hlg hov, ← gK h rfl (by rw [z]; exact E), z, A]
    rfl
 ·
  rw [← rf_no h, ← run_no h]; rfl
theorem same_fin {X : Option RunS} {Y : Option OutT} (h : Y = X.map outS) : ((X.isSome != Y.isSome) || (!decide (dE X = oV Y))) = false := by
 subst h; cases X <;> simp [dE, oV, outS]
theorem all_le {l : List Int} {m : Int} (h : ∀ x ∈ l, x ≤ m) (h0 : 0 ≤ m) (i : Nat) : l.getD i 0 ≤ m := by
 rw [List.getD_eq_getElem?_getD]
 cases e : l[i]? with
 | none => exact h0
 | some x => exact h x (List.mem_of_getElem? e)
theorem ex_c (_ : FuncId) {F : Fz} {H : Heap} {R : List Fp} (hs : HS (.of H []) F H [] R) (hT : TB 37 tabC F) : C Tryd.prog 1 (KT 60 38 37 tabC) 38 [] H fun v H' => ∃ (r : Bool), H' = H ∧ v = .bool r ∧ r = true :=
 ⟨0, .bool true, H, by unfold call jP; rw [(hT.heap hs).known (by decide)], true, rfl, rfl, rfl⟩
theorem ex_c_q (e : FuncId) {F : Fz} {H : Heap} {R : List Fp} (hs : HS (.of H []) F H [] R) (hT : TB 37 tabC F) : C Tryd.prog 1 (KT 60 38 37 tabC) 38 [] H fun v H' => v = .bool true ∧ H' = H := cq (ex_c e hs hT) (by rintro _ _ ⟨_, rfl, rfl, rfl⟩; exact ⟨rfl, rfl⟩)
set_option maxHeartbeats 2000000 in
theorem run_law {a_l : Option Addr} {k_l : Nat} (l : List Int) {a_m : Option Addr} {k_m : Nat} (m : List Int) (fi : Int) (a : Int) (b : Int) (w : Int) (fuel : Int) (most : Int) {F : Fz} {H : Heap} {R : List Fp} (hs : HS (.of H []) F H [] R) (hl : SR F (.slice a_l l.length k_l) l) (hm : SR F (.slice a_m m.length k_m) m) (hfi : in64 fi) (ha : in64 a) (hb : in64 b) (hw : in64 w) (hfuel : in64 fuel) (hmost : in64 most) (hT : TB 37 tabC F) : C Tryd.prog 1 (KT 60 38 37 tabC) 10 [(.slice a_l l.length k_l), (.slice a_m m.length k_m), (iI fi), (iI a), (iI b), (iI w), (iI fuel), (iI most)] H fun v H' => ∃ (r : Bool) (F' : Fz), Fz.le F F' ∧ HS (.of H []) F' H' [] R ∧ v = .bool r ∧ r = true := by
 refine aL Tryd.func10 rfl rfl ?_
 refine aw 1 rfl ?_
 refine wR 2 [] 16 16 [] [(16, (.bool false))] trivial rfl fun _ => ?_
 refine ae ?_
 refine wRo 2 0 [] 27 28 [] [(27, (.slice a_l l.length k_l)), (28, (.slice a_m m.length k_m))] trivial rfl fun _ => ?_
 refine aF (ax rfl rfl rfl) rfl rfl (m6.vfuncs_c 38 l m (HS.call hs) hl hm hT) ?_
 rintro _ H3 ⟨J, O, z, b5, b9, q3, F3, c5, av, rfl, A, Z, rfl, h3⟩
 replace av := HS.back hs rfl av
 have av : HS _ _ _ [] _ := av
 replace hT := hT.mono c5
 refine wRo 5 3 [] 30 31 [17, 18, 26] [(17, (.slice J z.length O)), (18, (.slice b5 [3, 2].length b9))] trivial rfl fun _ => ?_
 refine ao 2 rfl ?_
 have h_ : z.length = 2 ∧ vfG (z.getD 0 default) 2 ∧ vfG (z.getD 1 default) 1 := by assumption
 have h_l := h_.1
 have hpf := dT fi 2 (by omega)
 obtain ⟨gn, hE, hF, hgn⟩ := g_at h_ (k := (ai fi 2).toNat) (by omega)
 have hgp := hgn.par
 have hgl : z.getD (ai fi 2).toNat default ∈ z := by rw [List.getD_eq_getElem?_getD, List.getElem?_eq_getElem (by omega)]; exact List.getElem_mem _
 have hz := dT fi (2 : Int)
 refine wR 2 [(1, .o (iI (ai fi (2 : Int))))] 32 33 [2] [(2, (iI (ai fi (2 : Int))))] (vA (m1.fu 38 fi (2) H3 (by first | omega | (dsimp only; omega))) trivial) rfl fun _ => ?_
 refine aI rfl ?_
 refine fm (iI a) rfl rfl rfl ?_
 refine fm (iI b) rfl rfl rfl ?_
 refine fm (iI w) rfl rfl rfl ?_
 refine bm (W := []) (ax rfl rfl rfl) rfl rfl rfl (m6.args_c 38 a b w (HS.call av.log0) (by first | omega | (dsimp only; omega)) (by first | omega | (dsimp only; omega)) (by first | omega | (dsimp only; omega)) hT) (⟨.inl rfl, ⟨.inl rfl, ⟨.inl rfl, trivial⟩⟩⟩) ?_
 rintro _ H7 ⟨hu, hI, r7, p7, F7, b6, I, rfl, dt, h7⟩
 refine ⟨Wr.did I.log, fun fd dn => ?_⟩
 replace I := HS.back av.log0 rfl I
 replace I := HS.lg I av dn
 generalize ({ H7 with log := fd } : Heap) = e2 at I ⊢
 have I : HS _ _ _ [p7] _ := I
 replace A := A.mono b6
 refine fm (.slice J z.length O) rfl rfl rfl ?_
 refine fm (iI (ai fi (2 : Int))) rfl rfl rfl ?_
 refine ab (v := (.pointer (some ⟨sB (.slice J z.length O), sO (.slice J z.length O) + (ai fi (2 : Int)).toNat * Rp.sz VFnT, none⟩))) (id := .v) (bh (α := VFnT) (j := ai fi (2 : Int)) rfl rfl rfl rfl (SR.sv A I.log0) (by first | omega | (dsimp only; omega)) (by first | omega | (dsimp only; omega))) rfl rfl (az rfl) (ay _) ?_
 refine ab (v := (.pointer (some ⟨sB (.slice J z.length O), sO (.slice J z.length O) + (ai fi (2 : Int)).toNat * Rp.sz VFnT, none⟩))) (id := .v) (aU rfl rfl) rfl rfl (az rfl) (ay _) ?_
 obtain ⟨hv, e6, e4⟩ := Sv.at (SR.sv A I.log0) (aW (x := default) (show (ai fi (2 : Int)).toNat < z.length from by first | omega | (dsimp only; omega)))
 obtain ⟨f7, g5, rfl, g2, g3, g9⟩ := e6
 refine ab (v := (iI (z.getD (ai fi (2 : Int)).toNat default).params)) (id := .l (sB (.slice J z.length O))) (aD (i := 0) rfl rfl e4 rfl rfl) rfl rfl (aO rfl) (⟨.inl rfl, ⟨.inl rfl, ⟨.inl rfl, ⟨.inl rfl, ⟨.inr List.not_mem_nil, ⟨.inr trivial, ⟨.inr trivial, ⟨.inr trivial, trivial⟩⟩⟩⟩⟩⟩⟩⟩) ?_
 refine dC (id := .r) (rs_cutOt (α := Int) (j := (z.getD (ai fi (2 : Int)).toNat default).params.toNat) dt I.log0 (q := 0) rfl rfl rfl rfl (optN (by first | omega | (dsimp only; omega))) (by first | omega | (dsimp only; omega))) rfl rfl (by rintro _ _ _ ⟨_, _, _, hH, _⟩; simp only at hH; subst hH; exact did_r fun b hb => absurd hb List.not_mem_nil) (⟨.inl rfl, ⟨.inl rfl, ⟨.inl rfl, ⟨.inl rfl, ⟨.inl rfl, ⟨.inl rfl, ⟨.inl rfl, ⟨.inl rfl, ⟨.inl rfl, trivial⟩⟩⟩⟩⟩⟩⟩⟩⟩) ?_
 rintro _ _ _ ⟨b4, b7, rfl, a3, ds⟩ d2 c0
 simp only at a3; replace a3 := a3.symm; subst a3
 have co := HS.lg I.log0 I c0
 generalize ({ { e2 with log := [] } with log := d2 } : Heap) = dd at co ⊢
 refine fa (.slice b4 (r7.take (z.getD (ai fi (2 : Int)).toNat default).params.toNat).length b7) rfl rfl rfl ?_
 refine bz ?_
 refine aw 3 rfl ?_
 have hpm := dT most 60 (by omega)
 have hpu := dT fuel 12 (by omega)
 obtain ⟨ex, a2, bl, V, g4⟩ := OS.frz ds co (i := 0) rfl
 have bl : HS _ _ _ [[]] _ := bl
 generalize hq_ag : r7.take (z.getD (ai fi (2 : Int)).toNat default).params.toNat = ag at *
 refine ae ?_
 have g1 := dT most (60 : Int)
 refine wRo 4 0 [(1, .o (iI (ai most (60 : Int))))] 44 47 [] [(45, (iI (ai most (60 : Int)))), (47, (iI (if (300 : Int) < most then (300 : Int) else most)))] (vA (m1.fu 38 most (60) dd (by first | omega | (dsimp only; omega))) trivial) rfl fun _ => ?_
 refine bd (cN (α := Int) (ps := [(0, (iI 200)), (1, (iI (ai most (60 : Int)))), (2, (iI (if (300 : Int) < most then (300 : Int) else most)))]) (cells := [(iI 200), (iI (ai most (60 : Int))), (iI (if (300 : Int) < most then (300 : Int) else most))]) ([200, ai most (60 : Int), (if (300 : Int) < most then (300 : Int) else most)] : List Int) bl rfl rfl rfl (by kernel_rfl) ⟨[(iI 200)], [(iI (ai most (60 : Int))), (iI (if (300 : Int) < most then (300 : Int) else most))], rfl, ⟨rfl, by first | omega | (dsimp only; omega)⟩, ⟨[(iI (ai most (60 : Int)))], [(iI (if (300 : Int) < most then (300 : Int) else most))], rfl, ⟨rfl, by first | omega | (dsimp only; omega)⟩, ⟨[(iI (if (300 : Int) < most then (300 : Int) else most))], [], rfl, ⟨rfl, by first | omega | (dsimp only; omega)⟩, rfl⟩⟩⟩ rfl) rfl rfl ?_
 rintro _ hj cd ⟨e3, e9, rfl, a4, b0, _⟩
 have b0 : HS _ _ _ [[], cd] _ := b0
 refine wRo 2 5 [] 49 50 [] [(49, (iI 3)), (50, (iI 0))] trivial rfl fun _ => ?_
 refine ao 2 rfl ?_
 refine aG (fun (mm : Nat) f H' => ∃ (i : Nat) (F' : Fz), Fz.le ex F' ∧ HS (Base.of H []) F' H' [[], cd] R ∧ aZ f [(2, (iI (ai fi (2 : Int)))), (6, (iI fuel)), (17, (.slice J z.length O)), (18, (.slice b5 [3, 2].length b9)), (19, (.slice b4 ag.length b7)), (48, (.slice e3 ([200, ai most (60 : Int), (if (300 : Int) < most then (300 : Int) else most)] : List Int).length e9)), (49, (iI 3)), (50, (iI (i : Int)))] ∧ mm = 3 - i ∧ (i ≤ 3)) _ ⟨0, _, fR, b0, (agC rfl (agC rfl (agC rfl (agC rfl (agC rfl (agC rfl (agC rfl (agC rfl agN)))))))), rfl, (by first | assumption | omega | (simp at *; omega))⟩ ?_
 rintro g6 hy e0 ⟨i, he, T, ap, cl, rfl, hi⟩ d1
 refine aN _ cl (fun _ => ?_)
 clear cl
 replace hT := ((hT.mono b6).mono a2).mono T
 replace a4 := a4.mono T
 replace V := V.mono T
 replace A := (A.mono a2).mono T
 replace Z := ((Z.mono b6).mono a2).mono T
 refine aw 1 rfl ?_
 refine wR 2 [] 51 51 [] [(51, (.bool (decide ((i : Int) < 3))))] trivial rfl fun _ => ?_
 refine am 4 5 (v := (decide ((i : Int) < 3))) rfl rfl rfl rfl (fun ci => ?_) (fun ci => ?_)
 ·
  try simp only [BS] at ci
  have e5 : ∀ x ∈ ([200, ai most (60 : Int), (if (300 : Int) < most then (300 : Int) else most)] : List Int), x ≤ 300 := by
   intro x hx; simp only [List.mem_cons, List.not_mem_nil, or_false] at hx
   rcases hx with rfl | rfl | rfl
   ·
    omega
   ·
    omega
   ·
    split <;> omega
  have hG := all_le e5 (by omega) i
  obtain ⟨f9, cv⟩ := Sv.view (OS.sv a4 ap (i := 1) rfl)
  have hA := fI (cv i)
  refine wR 2 [(1, .o (iI (([200, ai most (60 : Int), (if (300 : Int) < most then (300 : Int) else most)] : List Int).getD i 0)))] 52 53 [21] [(21, (iI (([200, ai most (60 : Int), (if (300 : Int) < most then (300 : Int) else most)] : List Int).getD i 0)))] (vA (Sv.ix (j := (i : Int)) (OS.sv a4 ap (i := 1) rfl) (by first | omega | (dsimp only; omega)) (show (i : Int) < (3 : Int) from by first | omega | (dsimp only; omega))) (vA (ql 3 0 (vI (cv i) (show i < 3 from by first | omega | (dsimp only; omega))) rfl rfl) trivial)) rfl fun _ => ?_
  generalize hq_nn : (([200, ai most (60 : Int), (if (300 : Int) < most then (300 : Int) else most)] : List Int).getD i 0) = nn at *
  refine ae ?_
  refine wRo 7 0 [(5, .o (iI (ai fuel 12)))] 55 61 [] [(55, (.slice J z.length O)), (56, (.slice b5 [3, 2].length b9)), (57, (iI (ai fi (2 : Int)))), (58, (.slice b4 ag.length b7)), (60, (iI (ai fuel 12))), (61, (iI nn))] (vA (m6.fuel_c_q 38 fuel e0 (by first | omega | (dsimp only; omega))) trivial) rfl fun _ => ?_
  refine aF (ax rfl rfl rfl) rfl rfl (ir.vrun_c 38 z [3, 2] (ai fi (2 : Int)) ag (ai fuel 12) nn (HS.call ap) A Z (by first | omega | (dsimp only; omega)) V (by first | omega | (dsimp only; omega)) (by first | omega | (dsimp only; omega)) hT (by first | exact ⟨(by decide : ([3, 2] : List Int).length ≤ 1073741824), fun k j => Nat.le_trans (bd_p h_ k j) (by omega)⟩ | exact fun c hc k => Nat.le_trans (gX (bd_p h_) c hc k) (by omega) | omega) (by first | exact ⟨(by decide : ([3, 2] : List Int).length ≤ 1073741824), fun k j => Nat.le_trans (bd_p h_ k j) (by omega)⟩ | exact fun c hc k => Nat.le_trans (gX (bd_p h_) c hc k) (by omega) | omega) (by first | exact ⟨(by decide : ([3, 2] : List Int).length ≤ 1073741824), fun k j => Nat.le_trans (bd_p h_ k j) (by omega)⟩ | exact fun c hc k => Nat.le_trans (gX (bd_p h_) c hc k) (by omega) | omega)) ?_
  rintro _ hk ⟨hP, a6, a8, hK, hf, aq, ar, rfl, ea, eb, ec, ad, rfl, rfl, hC⟩
  replace ar := HS.back ap rfl ar
  have ar : HS _ _ _ [[], cd] _ := ar
  replace hT := hT.mono aq
  replace V := V.mono aq
  replace A := A.mono aq
  replace Z := Z.mono aq
  let c6 : Value := (.agg ⟨[(iI ((dE (cm z [3, 2] (ai fi (2 : Int)) ag (ai fuel 12) nn)).kind)), (iI ((dE (cm z [3, 2] (ai fi (2 : Int)) ag (ai fuel 12) nn)).code)), (.slice a6 ((dE (cm z [3, 2] (ai fi (2 : Int)) ag (ai fuel 12) nn)).out).length a8), (iI ((dE (cm z [3, 2] (ai fi (2 : Int)) ag (ai fuel 12) nn)).val))]⟩)
  refine wRo 3 8 [] 63 64 [54] [(63, c6), (64, (.bool (cm z [3, 2] (ai fi (2 : Int)) ag (ai fuel 12) nn).isSome))] trivial rfl fun _ => ?_
  refine bd (bK ar rfl) rfl rfl ?_
  rintro _ hn _ ⟨c3, rfl, b1, _⟩
  have b1 : HS _ _ _ [_, _, [(c3, .cells [(iI 0), (iI 0), (.slice none 0 0), (iI 0)] none false)]] _ := b1
  refine aP (aA (q := 2) b1 rfl rfl rfl rfl rfl rfl rfl rfl rfl) rfl ?_
  rintro _ e1 _ ⟨a5, _⟩
  let c7 : Fp := [(c3, .cells [(iI ((dE (cm z [3, 2] (ai fi (2 : Int)) ag (ai fuel 12) nn)).kind)), (iI ((dE (cm z [3, 2] (ai fi (2 : Int)) ag (ai fuel 12) nn)).code)), (.slice a6 ((dE (cm z [3, 2] (ai fi (2 : Int)) ag (ai fuel 12) nn)).out).length a8), (iI ((dE (cm z [3, 2] (ai fi (2 : Int)) ag (ai fuel 12) nn)).val))] none false)]
  have a5 : HS _ _ _ [_, _, c7] _ := a5
  refine wa (.bool (cm z [3, 2] (ai fi (2 : Int)) ag (ai fuel 12) nn).isSome) rfl rfl rfl ?_
  refine ao 2 rfl ?_
  refine ae ?_
  refine wRo 7 0 [(5, .o (iI (ai fuel 12)))] 66 72 [] [(66, (.slice J z.length O)), (67, (.slice b5 [3, 2].length b9)), (68, (iI (ai fi (2 : Int)))), (69, (.slice b4 ag.length b7)), (71, (iI (ai fuel 12))), (72, (iI nn))] (vA (m6.fuel_c_q 38 fuel e1 (by first | omega | (dsimp only; omega))) trivial) rfl fun _ => ?_
  refine aF (ax rfl rfl rfl) rfl rfl (je.rrun_c 38 z [3, 2] (ai fi (2 : Int)) ag (ai fuel 12) nn (HS.call a5) A Z (by first | omega | (dsimp only; omega)) V (by first | omega | (dsimp only; omega)) (by first | omega | (dsimp only; omega)) hT (by first | exact ⟨(by decide : ([3, 2] : List Int).length ≤ 1073741824), fun k j => Nat.le_trans (bd_p h_ k j) (by omega)⟩ | exact fun c hc k => Nat.le_trans (gX (bd_p h_) c hc k) (by omega) | omega) (by first | exact ⟨(by decide : ([3, 2] : List Int).length ≤ 1073741824), fun k j => Nat.le_trans (bd_p h_ k j) (by omega)⟩ | exact fun c hc k => Nat.le_trans (gX (bd_p h_) c hc k) (by omega) | omega) (by first | exact ⟨(by decide : ([3, 2] : List Int).length ≤ 1073741824), fun k j => Nat.le_trans (bd_p h_ k j) (by omega)⟩ | exact fun c hc k => Nat.le_trans (gX (bd_p h_) c hc k) (by omega) | omega)) ?_
  rintro _ ho ⟨hQ, a7, a9, hM, ez, bb, a0, rfl, em, es, et, ch, rfl, rfl, hD⟩
  replace a0 := HS.back a5 rfl a0
  have a0 : HS _ _ _ [_, _, _] _ := a0
  replace hT := hT.mono bb
  replace ad := ad.mono bb
  let c8 : Value := (.agg ⟨[(iI ((oV (bZ z [3, 2] (ai fi (2 : Int)) ag (ai fuel 12) nn)).kind)), (iI ((oV (bZ z [3, 2] (ai fi (2 : Int)) ag (ai fuel 12) nn)).code)), (.slice a7 ((oV (bZ z [3, 2] (ai fi (2 : Int)) ag (ai fuel 12) nn)).out).length a9), (iI ((oV (bZ z [3, 2] (ai fi (2 : Int)) ag (ai fuel 12) nn)).val))]⟩)
  refine wRo 3 8 [] 74 75 [65] [(74, c8), (75, (.bool (bZ z [3, 2] (ai fi (2 : Int)) ag (ai fuel 12) nn).isSome))] trivial rfl fun _ => ?_
  refine bd (bK a0 rfl) rfl rfl ?_
  rintro _ hp _ ⟨c4, rfl, b2, _⟩
  have b2 : HS _ _ _ [_, _, _, [(c4, .cells [(iI 0), (iI 0), (.slice none 0 0), (iI 0)] none false)]] _ := b2
  refine aP (aA (q := 3) b2 rfl rfl rfl rfl rfl rfl rfl rfl rfl) rfl ?_
  rintro _ hq _ ⟨U, _⟩
  let c9 : Fp := [(c4, .cells [(iI ((oV (bZ z [3, 2] (ai fi (2 : Int)) ag (ai fuel 12) nn)).kind)), (iI ((oV (bZ z [3, 2] (ai fi (2 : Int)) ag (ai fuel 12) nn)).code)), (.slice a7 ((oV (bZ z [3, 2] (ai fi (2 : Int)) ag (ai fuel 12) nn)).out).length a9), (iI ((oV (bZ z [3, 2] (ai fi (2 : Int)) ag (ai fuel 12) nn)).val))] none false)]
  have U : HS _ _ _ [_, _, _, c9] _ := U
  refine wa (.bool (bZ z [3, 2] (ai fi (2 : Int)) ag (ai fuel 12) nn).isSome) rfl rfl rfl ?_
  refine ao 2 rfl ?_
  refine wk_rcut 76 84 [] [(84, (.bool (((cm z [3, 2] (ai fi (2 : Int)) ag (ai fuel 12) nn).isSome != (bZ z [3, 2] (ai fi (2 : Int)) ag (ai fuel 12) nn).isSome) || (!(decide ((⟨(dE (cm z [3, 2] (ai fi (2 : Int)) ag (ai fuel 12) nn)).kind, (dE (cm z [3, 2] (ai fi (2 : Int)) ag (ai fuel 12) nn)).code, (dE (cm z [3, 2] (ai fi (2 : Int)) ag (ai fuel 12) nn)).out, (dE (cm z [3, 2] (ai fi (2 : Int)) ag (ai fuel 12) nn)).val⟩ : OutT) = (⟨(oV (bZ z [3, 2] (ai fi (2 : Int)) ag (ai fuel 12) nn)).kind, (oV (bZ z [3, 2] (ai fi (2 : Int)) ag (ai fuel 12) nn)).code, (oV (bZ z [3, 2] (ai fi (2 : Int)) ag (ai fuel 12) nn)).out, (oV (bZ z [3, 2] (ai fi (2 : Int)) ag (ai fuel 12) nn)).val⟩ : OutT)))))))] (fun H' => ∃ F', Fz.le ez F' ∧ HS (Base.of H []) F' H' [[], cd, c7, c9] R) ?_ ?_
  ·
   refine ae ?_
   refine wm (.bool (cm z [3, 2] (ai fi (2 : Int)) ag (ai fuel 12) nn).isSome) rfl rfl rfl ?_
   refine wm (.bool (bZ z [3, 2] (ai fi (2 : Int)) ag (ai fuel 12) nn).isSome) rfl rfl rfl ?_
   refine cL (v := (.bool ((cm z [3, 2] (ai fi (2 : Int)) ag (ai fuel 12) nn).isSome != (bZ z [3, 2] (ai fi (2 : Int)) ag (ai fuel 12) nn).isSome))) (ap_boolNe rfl rfl (fun a b => by cases a <;> cases b <;> kernel_rfl)) rfl rfl ?_
   refine wm (.bool ((cm z [3, 2] (ai fi (2 : Int)) ag (ai fuel 12) nn).isSome != (bZ z [3, 2] (ai fi (2 : Int)) ag (ai fuel 12) nn).isSome)) rfl rfl rfl ?_
   refine wo_gsF (v := ((cm z [3, 2] (ai fi (2 : Int)) ag (ai fuel 12) nn).isSome != (bZ z [3, 2] (ai fi (2 : Int)) ag (ai fuel 12) nn).isSome)) rfl rfl (fun E => ?_) (fun E => ?_)
   ·
    have b3 := E
    try simp only [BS] at b3
    refine cL (v := c6) (gE (i := 0) rfl rfl rfl (HS.hc U (i := 2) rfl) rfl rfl rfl) rfl rfl ?_
    refine jJ rfl E ?_
    refine cL (v := c8) (gE (i := 0) rfl rfl rfl (HS.hc U (i := 3) rfl) rfl rfl rfl) rfl rfl ?_
    refine jJ rfl E ?_
    refine aF (ax rfl rfl rfl) rfl rfl (it.same_c 38 (⟨(dE (cm z [3, 2] (ai fi (2 : Int)) ag (ai fuel 12) nn)).kind, (dE (cm z [3, 2] (ai fi (2 : Int)) ag (ai fuel 12) nn)).code, (dE (cm z [3, 2] (ai fi (2 : Int)) ag (ai fuel 12) nn)).out, (dE (cm z [3, 2] (ai fi (2 : Int)) ag (ai fuel 12) nn)).val⟩ : OutT) (⟨(oV (bZ z [3, 2] (ai fi (2 : Int)) ag (ai fuel 12) nn)).kind, (oV (bZ z [3, 2] (ai fi (2 : Int)) ag (ai fuel 12) nn)).code, (oV (bZ z [3, 2] (ai fi (2 : Int)) ag (ai fuel 12) nn)).out, (oV (bZ z [3, 2] (ai fi (2 : Int)) ag (ai fuel 12) nn)).val⟩ : OutT) (HS.call U) (by first | omega | (dsimp only; omega)) (by first | omega | (dsimp only; omega)) ad (by first | omega | (dsimp only; omega)) (by first | omega | (dsimp only; omega)) (by first | omega | (dsimp only; omega)) ch (by first | omega | (dsimp only; omega)) hT (by first | omega | (dsimp only; omega))) ?_
    rintro _ ht ⟨hN, hh, dl, a1, rfl, rfl⟩
    replace a1 := HS.back U rfl a1
    have a1 : HS _ _ _ [_, _, _, _] _ := a1
    refine jJ rfl E ?_
    refine cL (v := (.bool (!(decide ((⟨(dE (cm z [3, 2] (ai fi (2 : Int)) ag (ai fuel 12) nn)).kind, (dE (cm z [3, 2] (ai fi (2 : Int)) ag (ai fuel 12) nn)).code, (dE (cm z [3, 2] (ai fi (2 : Int)) ag (ai fuel 12) nn)).out, (dE (cm z [3, 2] (ai fi (2 : Int)) ag (ai fuel 12) nn)).val⟩ : OutT) = (⟨(oV (bZ z [3, 2] (ai fi (2 : Int)) ag (ai fuel 12) nn)).kind, (oV (bZ z [3, 2] (ai fi (2 : Int)) ag (ai fuel 12) nn)).code, (oV (bZ z [3, 2] (ai fi (2 : Int)) ag (ai fuel 12) nn)).out, (oV (bZ z [3, 2] (ai fi (2 : Int)) ag (ai fuel 12) nn)).val⟩ : OutT)))))) (ap_not rfl) rfl rfl ?_
    refine cL (v := (.bool (!(decide ((⟨(dE (cm z [3, 2] (ai fi (2 : Int)) ag (ai fuel 12) nn)).kind, (dE (cm z [3, 2] (ai fi (2 : Int)) ag (ai fuel 12) nn)).code, (dE (cm z [3, 2] (ai fi (2 : Int)) ag (ai fuel 12) nn)).out, (dE (cm z [3, 2] (ai fi (2 : Int)) ag (ai fuel 12) nn)).val⟩ : OutT) = (⟨(oV (bZ z [3, 2] (ai fi (2 : Int)) ag (ai fuel 12) nn)).kind, (oV (bZ z [3, 2] (ai fi (2 : Int)) ag (ai fuel 12) nn)).code, (oV (bZ z [3, 2] (ai fi (2 : Int)) ag (ai fuel 12) nn)).out, (oV (bZ z [3, 2] (ai fi (2 : Int)) ag (ai fuel 12) nn)).val⟩ : OutT)))))) (kX rfl E rfl) rfl rfl ?_
    refine iY ?_
    exact au ⟨rfl, ⟨_, (fT fR dl), HS.sub a1 (List.Sublist.refl _)⟩, (Lu rfl (Lu rfl (Lu rfl (Lu rfl (Lu rfl (Lu rfl (Lu rfl (Lu rfl (Lu rfl Lr))))))))), (agC (congrArg Value.bool (show (!(decide ((⟨(dE (cm z [3, 2] (ai fi (2 : Int)) ag (ai fuel 12) nn)).kind, (dE (cm z [3, 2] (ai fi (2 : Int)) ag (ai fuel 12) nn)).code, (dE (cm z [3, 2] (ai fi (2 : Int)) ag (ai fuel 12) nn)).out, (dE (cm z [3, 2] (ai fi (2 : Int)) ag (ai fuel 12) nn)).val⟩ : OutT) = (⟨(oV (bZ z [3, 2] (ai fi (2 : Int)) ag (ai fuel 12) nn)).kind, (oV (bZ z [3, 2] (ai fi (2 : Int)) ag (ai fuel 12) nn)).code, (oV (bZ z [3, 2] (ai fi (2 : Int)) ag (ai fuel 12) nn)).out, (oV (bZ z [3, 2] (ai fi (2 : Int)) ag (ai fuel 12) nn)).val⟩ : OutT)))) = (((cm z [3, 2] (ai fi (2 : Int)) ag (ai fuel 12) nn).isSome != (bZ z [3, 2] (ai fi (2 : Int)) ag (ai fuel 12) nn).isSome) || (!(decide ((⟨(dE (cm z [3, 2] (ai fi (2 : Int)) ag (ai fuel 12) nn)).kind, (dE (cm z [3, 2] (ai fi (2 : Int)) ag (ai fuel 12) nn)).code, (dE (cm z [3, 2] (ai fi (2 : Int)) ag (ai fuel 12) nn)).out, (dE (cm z [3, 2] (ai fi (2 : Int)) ag (ai fuel 12) nn)).val⟩ : OutT) = (⟨(oV (bZ z [3, 2] (ai fi (2 : Int)) ag (ai fuel 12) nn)).kind, (oV (bZ z [3, 2] (ai fi (2 : Int)) ag (ai fuel 12) nn)).code, (oV (bZ z [3, 2] (ai fi (2 : Int)) ag (ai fuel 12) nn)).out, (oV (bZ z [3, 2] (ai fi (2 : Int)) ag (ai fuel 12) nn)).val⟩ : OutT))))) by first | rfl | simp only [↓E, BT] | grind)) agN)⟩
   ·
    have b3 := E
    try simp only [BS] at b3
    refine eT rfl E rfl ?_
    refine eT rfl E rfl ?_
    refine eT rfl E rfl ?_
    refine cL (v := (.bool true)) (iV rfl E rfl) rfl rfl ?_
    refine iY ?_
    exact au ⟨rfl, ⟨_, fR, HS.sub U (List.Sublist.refl _)⟩, (Lu rfl (Lu rfl (Lu rfl (Lu rfl (Lu rfl (Lu rfl (Lu rfl (Lu rfl (Lu rfl Lr))))))))), (agC (congrArg Value.bool (show true = (((cm z [3, 2] (ai fi (2 : Int)) ag (ai fuel 12) nn).isSome != (bZ z [3, 2] (ai fi (2 : Int)) ag (ai fuel 12) nn).isSome) || (!(decide ((⟨(dE (cm z [3, 2] (ai fi (2 : Int)) ag (ai fuel 12) nn)).kind, (dE (cm z [3, 2] (ai fi (2 : Int)) ag (ai fuel 12) nn)).code, (dE (cm z [3, 2] (ai fi (2 : Int)) ag (ai fuel 12) nn)).out, (dE (cm z [3, 2] (ai fi (2 : Int)) ag (ai fuel 12) nn)).val⟩ : OutT) = (⟨(oV (bZ z [3, 2] (ai fi (2 : Int)) ag (ai fuel 12) nn)).kind, (oV (bZ z [3, 2] (ai fi (2 : Int)) ag (ai fuel 12) nn)).code, (oV (bZ z [3, 2] (ai fi (2 : Int)) ag (ai fuel 12) nn)).out, (oV (bZ z [3, 2] (ai fi (2 : Int)) ag (ai fuel 12) nn)).val⟩ : OutT))))) by first | rfl | simp only [↓E, BT] | grind)) agN)⟩
  ·
   rintro hB hr ⟨hg, dk, dv⟩
   refine aw 1 rfl ?_
   refine wk_iff 2 (v := (((cm z [3, 2] (ai fi (2 : Int)) ag (ai fuel 12) nn).isSome != (bZ z [3, 2] (ai fi (2 : Int)) ag (ai fuel 12) nn).isSome) || (!(decide ((⟨(dE (cm z [3, 2] (ai fi (2 : Int)) ag (ai fuel 12) nn)).kind, (dE (cm z [3, 2] (ai fi (2 : Int)) ag (ai fuel 12) nn)).code, (dE (cm z [3, 2] (ai fi (2 : Int)) ag (ai fuel 12) nn)).out, (dE (cm z [3, 2] (ai fi (2 : Int)) ag (ai fuel 12) nn)).val⟩ : OutT) = (⟨(oV (bZ z [3, 2] (ai fi (2 : Int)) ag (ai fuel 12) nn)).kind, (oV (bZ z [3, 2] (ai fi (2 : Int)) ag (ai fuel 12) nn)).code, (oV (bZ z [3, 2] (ai fi (2 : Int)) ag (ai fuel 12) nn)).out, (oV (bZ z [3, 2] (ai fi (2 : Int)) ag (ai fuel 12) nn)).val⟩ : OutT)))))) rfl (by exact same_fin ref_eq) rfl rfl ?_
   refine wR 1 [] 50 50 [85] [(50, (iI ((i : Int) + 1)))] (vA (vi (n := (i : Int) + 1) (by first | omega | (dsimp only; omega))) trivial) rfl fun _ => ?_
   refine d1 _ _ _ ?_ ⟨i + 1, _, (fT (fT (fT (T) aq) bb) dk), (HS.sub dv (List.sublist_append_left _ _)), (agC rfl (agC rfl (agC rfl (agC rfl (agC rfl (agC rfl (agC rfl (agC rfl agN)))))))), rfl, (by first | assumption | omega | (simp at *; omega))⟩
   omega
 ·
  try simp only [BS] at ci
  refine wR 1 [(0, .o (.bool true))] 16 16 [86] [(16, (.bool true))] (vA (ex_c_q 38 (HS.call ap) hT) trivial) rfl fun _ => ?_
  refine aj ⟨.inr rfl, _, rfl, true, _, (fT (fT (fT (c5) b6) a2) T), (HS.forget ap), rfl, (by rfl)⟩
end Go.Proofs.YtlabedbmgmfbaaaDoor.lr
