/-
 The law that an outcome does not depend on the limit of steps, by a symbolic run. No condition but that the table lies as laid.
-/
import Derived.Test.YtlabedbmgmfbaaaDoorZMIT
noncomputable section
namespace Go.Proofs.YtlabedbmgmfbaaaDoor.lx
open Go.R
set_option maxRecDepth 10000
set_option linter.unusedVariables false
open m1 m2 m3 m4 m5 m6 m7 m8 iw ia ib ic is_ id_ ir it
def bdP (l : List VFnT) : Prop := ∀ k j, ((l.getD k default).blocks.getD j default).ins.length ≤ 1000
theorem gj {l : List VFnT} (h : bdP l) : ∀ x ∈ l, ∀ j, (x.blocks.getD j default).ins.length ≤ 1000 := fun x hx j => by
 obtain ⟨k, hk, rfl⟩ := List.mem_iff_getElem.1 hx
 have := h k j
 rwa [List.getD_eq_getElem?_getD (l := l), List.getElem?_eq_getElem hk] at this
theorem bd_p {p : List VFnT} (h : p.length = 2 ∧ vfG (p.getD 0 default) 2 ∧ vfG (p.getD 1 default) 1) : bdP p := fun k j => by
 rcases Nat.lt_or_ge k 2 with hk | hk
 ·
  have : k = 0 ∨ k = 1 := by omega
  rcases this with rfl | rfl
  ·
   exact Nat.le_trans (h.2.1.ins j) (by omega)
  ·
   exact Nat.le_trans (h.2.2.ins j) (by omega)
 ·
  have z := h.1
  rw [eQ (l := p) (by omega)]; exact Nat.zero_le _
theorem g_at {p : List VFnT} (h : p.length = 2 ∧ vfG (p.getD 0 default) 2 ∧ vfG (p.getD 1 default) 1) {k : Nat} (hk : k < 2) : ∃ n, 0 ≤ n ∧ n ≤ 2 ∧ vfG (p.getD k default) n := by
 have : k = 0 ∨ k = 1 := by omega
 rcases this with rfl | rfl
 ·
  exact ⟨2, by omega, by omega, h.2.1⟩
 ·
  exact ⟨1, by omega, by omega, h.2.2⟩
theorem run_more {P : List VFnT} {lens : List Int} {f : Int} {args : List Int} {fuel n k : Int} (hn : 0 ≤ n ∧ 0 ≤ k) (h : (aK P lens f args fuel n).isSome = true) : aK P lens f args fuel (n + k) = aK P lens f args fuel n := by
 unfold aK at h ⊢
 split at h
 ·
  rename_i hh
  have e := jK hh.2 k.toNat
  rw [show n.toNat + k.toNat = (n + k).toNat by omega] at e
  rw [if_pos ⟨hh.1, by rw [e]; exact hh.2⟩, if_pos hh, e]
 ·
  cases h
theorem more_fin {X Y : Option RunS} (h : X.isSome = true → Y = X) : ((!X.isSome) || (Y.isSome && decide (aW X = aW Y))) = true := by
 cases e : X.isSome with
 | false => rfl
 | true => rw [h e, e]; simp
theorem ex_c (_ : FuncId) {F : Fz} {H : Heap} {R : List Fp} (hs : HS (.of H []) F H [] R) (hT : TB 37 tabC F) : C Tryd.prog 1 (KT 60 38 37 tabC) 38 [] H fun v H' => ∃ (r : Bool), H' = H ∧ v = .bool r ∧ r = true :=
 ⟨0, .bool true, H, by unfold call iV; rw [(hT.heap hs).known (by decide)], true, rfl, rfl, rfl⟩
set_option maxHeartbeats 2000000 in
theorem more_law {a_l : Option Addr} {k_l : Nat} (l : List Int) {a_m : Option Addr} {k_m : Nat} (m : List Int) (fi : Int) (a : Int) (b : Int) (w : Int) (fuel : Int) (most : Int) (more : Int) {F : Fz} {H : Heap} {R : List Fp} (hs : HS (.of H []) F H [] R) (hl : SR F (.slice a_l l.length k_l) l) (hm : SR F (.slice a_m m.length k_m) m) (hfi : in64 fi) (ha : in64 a) (hb : in64 b) (hw : in64 w) (hfuel : in64 fuel) (hmost : in64 most) (hmore : in64 more) (hT : TB 37 tabC F) : C Tryd.prog 1 (KT 60 38 37 tabC) 12 [(.slice a_l l.length k_l), (.slice a_m m.length k_m), (iI fi), (iI a), (iI b), (iI w), (iI fuel), (iI most), (iI more)] H fun v H' => ∃ (r : Bool) (F' : Fz), Fz.le F F' ∧ HS (.of H []) F' H' [] R ∧ v = .bool r ∧ r = true := by
 refine aL Tryd.func12 rfl rfl ?_
 refine ay 1 rfl ?_
 refine wR 2 [] 18 18 [] [(18, (.bool false))] trivial rfl fun _ => ?_
 refine ah ?_
 refine wRo 2 0 [] 28 29 [] [(28, (.slice a_l l.length k_l)), (29, (.slice a_m m.length k_m))] trivial rfl fun _ => ?_
 refine aJ (ax rfl rfl rfl) rfl rfl (m6.vfuncs_c 38 l m (HS.call hs) hl hm hT) ?_
 rintro _ H3 ⟨V, Z, z, ci, c0, q3, F3, c7, a0, rfl, I, ad, rfl, h3⟩
 replace a0 := HS.back hs rfl a0
 have a0 : HS _ _ _ [] _ := a0
 replace hT := hT.mono c7
 refine wRo 5 3 [] 31 32 [19, 20, 27] [(19, (.slice V z.length Z)), (20, (.slice ci [3, 2].length c0))] trivial rfl fun _ => ?_
 refine au 2 rfl ?_
 have h_ : z.length = 2 ∧ vfG (z.getD 0 default) 2 ∧ vfG (z.getD 1 default) 1 := by assumption
 have h_l := h_.1
 have hpf := cM fi 2 (by omega)
 obtain ⟨gn, hv, hx, hgn⟩ := g_at h_ (k := (ab fi 2).toNat) (by omega)
 have hgp := hgn.par
 have hgl : z.getD (ab fi 2).toNat default ∈ z := by rw [List.getD_eq_getElem?_getD, List.getElem?_eq_getElem (by omega)]; exact List.getElem_mem _
 have hq := cM fi (2 : Int)
 refine wR 2 [(1, .o (iI (ab fi (2 : Int))))] 33 34 [2] [(2, (iI (ab fi (2 : Int))))] (vA (m1.d8 38 fi (2) H3 (by omega)) trivial) rfl fun _ => ?_
 refine aR rfl ?_
 refine fm (iI a) rfl rfl rfl ?_
 refine fm (iI b) rfl rfl rfl ?_
 refine fm (iI w) rfl rfl rfl ?_
 refine a9 (W := []) (ax rfl rfl rfl) rfl rfl rfl (m6.args_c 38 a b w (HS.call a0.log0) (by omega) (by omega) (by omega) hT) (⟨.inl rfl, ⟨.inl rfl, ⟨.inl rfl, trivial⟩⟩⟩) ?_
 rintro _ H7 ⟨ho, hy, A, p7, F7, b6, J, rfl, dt, h7⟩
 refine ⟨Wr.did J.log, fun e6 dn => ?_⟩
 replace J := HS.back a0.log0 rfl J
 replace J := HS.lg J a0 dn
 generalize ({ H7 with log := e6 } : Heap) = e3 at J ⊢
 have J : HS _ _ _ [p7] _ := J
 replace I := I.mono b6
 refine fm (.slice V z.length Z) rfl rfl rfl ?_
 refine fm (iI (ab fi (2 : Int))) rfl rfl rfl ?_
 refine ai (v := (.pointer (some ⟨sB (.slice V z.length Z), sO (.slice V z.length Z) + (ab fi (2 : Int)).toNat * Rp.sz VFnT, none⟩))) (id := .v) (eI (α := VFnT) (j := ab fi (2 : Int)) rfl rfl rfl rfl (SR.sv I J.log0) (by omega) (by omega)) rfl rfl (aI rfl) (aF _) ?_
 refine ai (v := (.pointer (some ⟨sB (.slice V z.length Z), sO (.slice V z.length Z) + (ab fi (2 : Int)).toNat * Rp.sz VFnT, none⟩))) (id := .v) (bd rfl rfl) rfl rfl (aI rfl) (aF _) ?_
 obtain ⟨hp, e5, e4⟩ := Sv.at (SR.sv I J.log0) (dM (x := default) (show (ab fi (2 : Int)).toNat < z.length from by omega))
 obtain ⟨f2, g4, rfl, g1, g2, g6⟩ := e5
 refine ai (v := (iI (z.getD (ab fi (2 : Int)).toNat default).params)) (id := .l (sB (.slice V z.length Z))) (aT (i := 0) rfl rfl e4 rfl rfl) rfl rfl (bn rfl) (⟨.inl rfl, ⟨.inl rfl, ⟨.inl rfl, ⟨.inl rfl, ⟨.inr List.not_mem_nil, ⟨.inr trivial, ⟨.inr trivial, ⟨.inr trivial, trivial⟩⟩⟩⟩⟩⟩⟩⟩) ?_
 refine dU (id := .r) (rs_cutOt (α := Int) (j := (z.getD (ab fi (2 : Int)).toNat default).params.toNat) dt J.log0 (q := 0) rfl rfl rfl rfl (optN (by omega)) (by omega)) rfl rfl (by rintro _ _ _ ⟨_, _, _, hH, _⟩; simp only at hH; subst hH; exact did_r fun b hb => absurd hb List.not_mem_nil) (⟨.inl rfl, ⟨.inl rfl, ⟨.inl rfl, ⟨.inl rfl, ⟨.inl rfl, ⟨.inl rfl, ⟨.inl rfl, ⟨.inl rfl, ⟨.inl rfl, trivial⟩⟩⟩⟩⟩⟩⟩⟩⟩) ?_
 rintro _ _ _ ⟨ch, co, rfl, a2, ds⟩ d1 c3
 simp only at a2; replace a2 := a2.symm; subst a2
 have cl := HS.lg J.log0 J c3
 generalize ({ { e3 with log := [] } with log := d1 } : Heap) = cd at cl ⊢
 refine fa (.slice ch (A.take (z.getD (ab fi (2 : Int)).toNat default).params.toNat).length co) rfl rfl rfl ?_
 refine bZ ?_
 refine ay 2 rfl ?_
 have f6 := cM most (150 : Int)
 refine wR 2 [(1, .o (iI (ab most (150 : Int))))] 45 46 [22] [(22, (iI (ab most (150 : Int))))] (vA (m1.d8 38 most (150) cd (by omega)) trivial) rfl fun _ => ?_
 have hpm := cM most 150 (by omega)
 have hpo := cM more 100 (by omega)
 have hpu := cM fuel 12 (by omega)
 refine ah ?_
 refine wRo 7 0 [(5, .o (iI (ab fuel 12)))] 48 54 [] [(48, (.slice V z.length Z)), (49, (.slice ci [3, 2].length c0)), (50, (iI (ab fi (2 : Int)))), (51, (.slice ch (A.take (z.getD (ab fi (2 : Int)).toNat default).params.toNat).length co)), (53, (iI (ab fuel 12))), (54, (iI (ab most (150 : Int))))] (vA (m6.fuel_c_q 38 fuel cd (by omega)) trivial) rfl fun _ => ?_
 obtain ⟨g7, a1, a4, a3, g3⟩ := OS.frz ds cl (i := 0) rfl
 have a4 : HS _ _ _ [[]] _ := a4
 replace hT := (hT.mono b6).mono a1
 replace I := I.mono a1
 replace ad := (ad.mono b6).mono a1
 refine aJ (ax rfl rfl rfl) rfl rfl (ir.vrun_c 38 z [3, 2] (ab fi (2 : Int)) (A.take (z.getD (ab fi (2 : Int)).toNat default).params.toNat) (ab fuel 12) (ab most (150 : Int)) (HS.call a4) I ad (by omega) a3 (by omega) (by omega) hT (by first | exact ⟨(by decide : ([3, 2] : List Int).length ≤ 1073741824), fun k j => Nat.le_trans (bd_p h_ k j) (by omega)⟩ | exact fun c hc k => Nat.le_trans (gj (bd_p h_) c hc k) (by omega) | omega) (by first | exact ⟨(by decide : ([3, 2] : List Int).length ≤ 1073741824), fun k j => Nat.le_trans (bd_p h_ k j) (by omega)⟩ | exact fun c hc k => Nat.le_trans (gj (bd_p h_) c hc k) (by omega) | omega) (by first | exact ⟨(by decide : ([3, 2] : List Int).length ≤ 1073741824), fun k j => Nat.le_trans (bd_p h_ k j) (by omega)⟩ | exact fun c hc k => Nat.le_trans (gj (bd_p h_) c hc k) (by omega) | omega)) ?_
 rintro _ hg ⟨hE, a6, a8, hz, g9, aq, ar, rfl, d2, em, es, ag, rfl, rfl, ht⟩
 replace ar := HS.back a4 rfl ar
 have ar : HS _ _ _ [_] _ := ar
 replace hT := hT.mono aq
 replace a3 := a3.mono aq
 replace I := I.mono aq
 replace ad := ad.mono aq
 let c8 : Value := (.agg ⟨[(iI ((aW (aK z [3, 2] (ab fi (2 : Int)) (A.take (z.getD (ab fi (2 : Int)).toNat default).params.toNat) (ab fuel 12) (ab most (150 : Int)))).kind)), (iI ((aW (aK z [3, 2] (ab fi (2 : Int)) (A.take (z.getD (ab fi (2 : Int)).toNat default).params.toNat) (ab fuel 12) (ab most (150 : Int)))).code)), (.slice a6 ((aW (aK z [3, 2] (ab fi (2 : Int)) (A.take (z.getD (ab fi (2 : Int)).toNat default).params.toNat) (ab fuel 12) (ab most (150 : Int)))).out).length a8), (iI ((aW (aK z [3, 2] (ab fi (2 : Int)) (A.take (z.getD (ab fi (2 : Int)).toNat default).params.toNat) (ab fuel 12) (ab most (150 : Int)))).val))]⟩)
 refine wRo 3 8 [] 56 57 [47] [(56, c8), (57, (.bool ((aK z [3, 2] (ab fi (2 : Int)) (A.take (z.getD (ab fi (2 : Int)).toNat default).params.toNat) (ab fuel 12) (ab most (150 : Int))).isSome)))] trivial rfl fun _ => ?_
 refine br (bX ar rfl) rfl rfl ?_
 rintro _ hh _ ⟨c5, rfl, b1, _⟩
 have b1 : HS _ _ _ [_, [(c5, .cells [(iI 0), (iI 0), (.slice none 0 0), (iI 0)] none false)]] _ := b1
 refine aN (aC (q := 1) b1 rfl rfl rfl rfl rfl rfl rfl rfl rfl) rfl ?_
 rintro _ c4 _ ⟨a5, _⟩
 let c9 : Fp := [(c5, .cells [(iI ((aW (aK z [3, 2] (ab fi (2 : Int)) (A.take (z.getD (ab fi (2 : Int)).toNat default).params.toNat) (ab fuel 12) (ab most (150 : Int)))).kind)), (iI ((aW (aK z [3, 2] (ab fi (2 : Int)) (A.take (z.getD (ab fi (2 : Int)).toNat default).params.toNat) (ab fuel 12) (ab most (150 : Int)))).code)), (.slice a6 ((aW (aK z [3, 2] (ab fi (2 : Int)) (A.take (z.getD (ab fi (2 : Int)).toNat default).params.toNat) (ab fuel 12) (ab most (150 : Int)))).out).length a8), (iI ((aW (aK z [3, 2] (ab fi (2 : Int)) (A.take (z.getD (ab fi (2 : Int)).toNat default).params.toNat) (ab fuel 12) (ab most (150 : Int)))).val))] none false)]
 have a5 : HS _ _ _ [_, c9] _ := a5
 refine wa (.bool ((aK z [3, 2] (ab fi (2 : Int)) (A.take (z.getD (ab fi (2 : Int)).toNat default).params.toNat) (ab fuel 12) (ab most (150 : Int))).isSome)) rfl rfl rfl ?_
 refine au 2 rfl ?_
 refine ah ?_
 have f9 := cM more (100 : Int)
 refine wRo 10 0 [(5, .o (iI (ab fuel 12))), (8, .o (iI (ab more (100 : Int))))] 59 68 [] [(59, (.slice V z.length Z)), (60, (.slice ci [3, 2].length c0)), (61, (iI (ab fi (2 : Int)))), (62, (.slice ch (A.take (z.getD (ab fi (2 : Int)).toNat default).params.toNat).length co)), (64, (iI (ab fuel 12))), (68, (iI ((ab most (150 : Int)) + (ab more (100 : Int)))))] (vA (m6.fuel_c_q 38 fuel c4 (by omega)) (vA (m1.d8 38 more (100) c4 (by omega)) (vA (vi (n := (ab most (150 : Int)) + (ab more (100 : Int))) (by omega)) trivial))) rfl fun _ => ?_
 refine aJ (ax rfl rfl rfl) rfl rfl (ir.vrun_c 38 z [3, 2] (ab fi (2 : Int)) (A.take (z.getD (ab fi (2 : Int)).toNat default).params.toNat) (ab fuel 12) ((ab most (150 : Int)) + (ab more (100 : Int))) (HS.call a5) I ad (by omega) a3 (by omega) (by omega) hT (by first | exact ⟨(by decide : ([3, 2] : List Int).length ≤ 1073741824), fun k j => Nat.le_trans (bd_p h_ k j) (by omega)⟩ | exact fun c hc k => Nat.le_trans (gj (bd_p h_) c hc k) (by omega) | omega) (by first | exact ⟨(by decide : ([3, 2] : List Int).length ≤ 1073741824), fun k j => Nat.le_trans (bd_p h_ k j) (by omega)⟩ | exact fun c hc k => Nat.le_trans (gj (bd_p h_) c hc k) (by omega) | omega) (by first | exact ⟨(by decide : ([3, 2] : List Int).length ≤ 1073741824), fun k j => Nat.le_trans (bd_p h_ k j) (by omega)⟩ | exact fun c hc k => Nat.le_trans (gj (bd_p h_) c hc k) (by omega) | omega)) ?_
 rintro _ hj ⟨hF, a7, bb, hA, e0, bl, av, rfl, et, ex, ez, b7, rfl, rfl, hu⟩
 replace av := HS.back a5 rfl av
 have av : HS _ _ _ [_, _] _ := av
 replace hT := hT.mono bl
 replace ag := ag.mono bl
 let dd : Value := (.agg ⟨[(iI ((aW (aK z [3, 2] (ab fi (2 : Int)) (A.take (z.getD (ab fi (2 : Int)).toNat default).params.toNat) (ab fuel 12) ((ab most (150 : Int)) + (ab more (100 : Int))))).kind)), (iI ((aW (aK z [3, 2] (ab fi (2 : Int)) (A.take (z.getD (ab fi (2 : Int)).toNat default).params.toNat) (ab fuel 12) ((ab most (150 : Int)) + (ab more (100 : Int))))).code)), (.slice a7 ((aW (aK z [3, 2] (ab fi (2 : Int)) (A.take (z.getD (ab fi (2 : Int)).toNat default).params.toNat) (ab fuel 12) ((ab most (150 : Int)) + (ab more (100 : Int))))).out).length bb), (iI ((aW (aK z [3, 2] (ab fi (2 : Int)) (A.take (z.getD (ab fi (2 : Int)).toNat default).params.toNat) (ab fuel 12) ((ab most (150 : Int)) + (ab more (100 : Int))))).val))]⟩)
 refine wRo 3 11 [] 70 71 [58] [(70, dd), (71, (.bool ((aK z [3, 2] (ab fi (2 : Int)) (A.take (z.getD (ab fi (2 : Int)).toNat default).params.toNat) (ab fuel 12) ((ab most (150 : Int)) + (ab more (100 : Int)))).isSome)))] trivial rfl fun _ => ?_
 refine br (bX av rfl) rfl rfl ?_
 rintro _ hk _ ⟨c6, rfl, b2, _⟩
 have b2 : HS _ _ _ [_, _, [(c6, .cells [(iI 0), (iI 0), (.slice none 0 0), (iI 0)] none false)]] _ := b2
 refine aN (aC (q := 2) b2 rfl rfl rfl rfl rfl rfl rfl rfl rfl) rfl ?_
 rintro _ e1 _ ⟨O, _⟩
 let dk : Fp := [(c6, .cells [(iI ((aW (aK z [3, 2] (ab fi (2 : Int)) (A.take (z.getD (ab fi (2 : Int)).toNat default).params.toNat) (ab fuel 12) ((ab most (150 : Int)) + (ab more (100 : Int))))).kind)), (iI ((aW (aK z [3, 2] (ab fi (2 : Int)) (A.take (z.getD (ab fi (2 : Int)).toNat default).params.toNat) (ab fuel 12) ((ab most (150 : Int)) + (ab more (100 : Int))))).code)), (.slice a7 ((aW (aK z [3, 2] (ab fi (2 : Int)) (A.take (z.getD (ab fi (2 : Int)).toNat default).params.toNat) (ab fuel 12) ((ab most (150 : Int)) + (ab more (100 : Int))))).out).length bb), (iI ((aW (aK z [3, 2] (ab fi (2 : Int)) (A.take (z.getD (ab fi (2 : Int)).toNat default).params.toNat) (ab fuel 12) ((ab most (150 : Int)) + (ab more (100 : Int))))).val))] none false)]
 have O : HS _ _ _ [_, _, dk] _ := O
 refine wa (.bool ((aK z [3, 2] (ab fi (2 : Int)) (A.take (z.getD (ab fi (2 : Int)).toNat default).params.toNat) (ab fuel 12) ((ab most (150 : Int)) + (ab more (100 : Int)))).isSome)) rfl rfl rfl ?_
 refine au 2 rfl ?_
 refine wk_rcut 18 84 [] [(18, (.bool ((!((aK z [3, 2] (ab fi (2 : Int)) (A.take (z.getD (ab fi (2 : Int)).toNat default).params.toNat) (ab fuel 12) (ab most (150 : Int))).isSome)) || ((aK z [3, 2] (ab fi (2 : Int)) (A.take (z.getD (ab fi (2 : Int)).toNat default).params.toNat) (ab fuel 12) ((ab most (150 : Int)) + (ab more (100 : Int)))).isSome && decide ((⟨(aW (aK z [3, 2] (ab fi (2 : Int)) (A.take (z.getD (ab fi (2 : Int)).toNat default).params.toNat) (ab fuel 12) (ab most (150 : Int)))).kind, (aW (aK z [3, 2] (ab fi (2 : Int)) (A.take (z.getD (ab fi (2 : Int)).toNat default).params.toNat) (ab fuel 12) (ab most (150 : Int)))).code, (aW (aK z [3, 2] (ab fi (2 : Int)) (A.take (z.getD (ab fi (2 : Int)).toNat default).params.toNat) (ab fuel 12) (ab most (150 : Int)))).out, (aW (aK z [3, 2] (ab fi (2 : Int)) (A.take (z.getD (ab fi (2 : Int)).toNat default).params.toNat) (ab fuel 12) (ab most (150 : Int)))).val⟩ : OutT) = (⟨(aW (aK z [3, 2] (ab fi (2 : Int)) (A.take (z.getD (ab fi (2 : Int)).toNat default).params.toNat) (ab fuel 12) ((ab most (150 : Int)) + (ab more (100 : Int))))).kind, (aW (aK z [3, 2] (ab fi (2 : Int)) (A.take (z.getD (ab fi (2 : Int)).toNat default).params.toNat) (ab fuel 12) ((ab most (150 : Int)) + (ab more (100 : Int))))).code, (aW (aK z [3, 2] (ab fi (2 : Int)) (A.take (z.getD (ab fi (2 : Int)).toNat default).params.toNat) (ab fuel 12) ((ab most (150 : Int)) + (ab more (100 : Int))))).out, (aW (aK z [3, 2] (ab fi (2 : Int)) (A.take (z.getD (ab fi (2 : Int)).toNat default).params.toNat) (ab fuel 12) ((ab most (150 : Int)) + (ab more (100 : Int))))).val⟩ : OutT))))))] (fun H' => ∃ F', Fz.le e0 F' ∧ HS (Base.of H []) F' H' [[], c9, dk] R) ?_ ?_
 ·
  refine ah ?_
  refine wm (.bool ((aK z [3, 2] (ab fi (2 : Int)) (A.take (z.getD (ab fi (2 : Int)).toNat default).params.toNat) (ab fuel 12) (ab most (150 : Int))).isSome)) rfl rfl rfl ?_
  refine dr (v := (.bool (!((aK z [3, 2] (ab fi (2 : Int)) (A.take (z.getD (ab fi (2 : Int)).toNat default).params.toNat) (ab fuel 12) (ab most (150 : Int))).isSome)))) (ap_not rfl) rfl rfl ?_
  refine wm (.bool (!((aK z [3, 2] (ab fi (2 : Int)) (A.take (z.getD (ab fi (2 : Int)).toNat default).params.toNat) (ab fuel 12) (ab most (150 : Int))).isSome))) rfl rfl rfl ?_
  refine wo_gsF (v := (!((aK z [3, 2] (ab fi (2 : Int)) (A.take (z.getD (ab fi (2 : Int)).toNat default).params.toNat) (ab fuel 12) (ab most (150 : Int))).isSome))) rfl rfl (fun E => ?_) (fun E => ?_)
  ·
   have b3 := E
   try simp only [BS] at b3
   refine wm (.bool ((aK z [3, 2] (ab fi (2 : Int)) (A.take (z.getD (ab fi (2 : Int)).toNat default).params.toNat) (ab fuel 12) ((ab most (150 : Int)) + (ab more (100 : Int)))).isSome)) rfl rfl rfl ?_
   refine jx rfl E ?_
   refine wm (.bool ((aK z [3, 2] (ab fi (2 : Int)) (A.take (z.getD (ab fi (2 : Int)).toNat default).params.toNat) (ab fuel 12) ((ab most (150 : Int)) + (ab more (100 : Int)))).isSome)) rfl rfl rfl ?_
   refine wo_gsT (v := ((aK z [3, 2] (ab fi (2 : Int)) (A.take (z.getD (ab fi (2 : Int)).toNat default).params.toNat) (ab fuel 12) ((ab most (150 : Int)) + (ab more (100 : Int)))).isSome)) rfl rfl (fun T => ?_) (fun T => ?_)
   ·
    have b4 := T
    try simp only [BS] at b4
    refine dr (v := c8) (iM (i := 0) rfl rfl rfl (HS.hc O (i := 1) rfl) rfl rfl rfl) rfl rfl ?_
    refine jx rfl T ?_
    refine dr (v := dd) (iM (i := 0) rfl rfl rfl (HS.hc O (i := 2) rfl) rfl rfl rfl) rfl rfl ?_
    refine jx rfl T ?_
    refine aJ (ax rfl rfl rfl) rfl rfl (it.same_c 38 (⟨(aW (aK z [3, 2] (ab fi (2 : Int)) (A.take (z.getD (ab fi (2 : Int)).toNat default).params.toNat) (ab fuel 12) (ab most (150 : Int)))).kind, (aW (aK z [3, 2] (ab fi (2 : Int)) (A.take (z.getD (ab fi (2 : Int)).toNat default).params.toNat) (ab fuel 12) (ab most (150 : Int)))).code, (aW (aK z [3, 2] (ab fi (2 : Int)) (A.take (z.getD (ab fi (2 : Int)).toNat default).params.toNat) (ab fuel 12) (ab most (150 : Int)))).out, (aW (aK z [3, 2] (ab fi (2 : Int)) (A.take (z.getD (ab fi (2 : Int)).toNat default).params.toNat) (ab fuel 12) (ab most (150 : Int)))).val⟩ : OutT) (⟨(aW (aK z [3, 2] (ab fi (2 : Int)) (A.take (z.getD (ab fi (2 : Int)).toNat default).params.toNat) (ab fuel 12) ((ab most (150 : Int)) + (ab more (100 : Int))))).kind, (aW (aK z [3, 2] (ab fi (2 : Int)) (A.take (z.getD (ab fi (2 : Int)).toNat default).params.toNat) (ab fuel 12) ((ab most (150 : Int)) + (ab more (100 : Int))))).code, (aW (aK z [3, 2] (ab fi (2 : Int)) (A.take (z.getD (ab fi (2 : Int)).toNat default).params.toNat) (ab fuel 12) ((ab most (150 : Int)) + (ab more (100 : Int))))).out, (aW (aK z [3, 2] (ab fi (2 : Int)) (A.take (z.getD (ab fi (2 : Int)).toNat default).params.toNat) (ab fuel 12) ((ab most (150 : Int)) + (ab more (100 : Int))))).val⟩ : OutT) (HS.call O) (by omega) (by omega) ag (by omega) (by omega) (by omega) b7 (by omega) hT (by first | omega | (dsimp only; omega))) ?_
    rintro _ e2 ⟨hB, hf, b0, U, rfl, rfl⟩
    replace U := HS.back O rfl U
    have U : HS _ _ _ [_, _, _] _ := U
    replace hT := hT.mono b0
    refine jx rfl E ?_
    refine dr (v := (.bool (decide ((⟨(aW (aK z [3, 2] (ab fi (2 : Int)) (A.take (z.getD (ab fi (2 : Int)).toNat default).params.toNat) (ab fuel 12) (ab most (150 : Int)))).kind, (aW (aK z [3, 2] (ab fi (2 : Int)) (A.take (z.getD (ab fi (2 : Int)).toNat default).params.toNat) (ab fuel 12) (ab most (150 : Int)))).code, (aW (aK z [3, 2] (ab fi (2 : Int)) (A.take (z.getD (ab fi (2 : Int)).toNat default).params.toNat) (ab fuel 12) (ab most (150 : Int)))).out, (aW (aK z [3, 2] (ab fi (2 : Int)) (A.take (z.getD (ab fi (2 : Int)).toNat default).params.toNat) (ab fuel 12) (ab most (150 : Int)))).val⟩ : OutT) = (⟨(aW (aK z [3, 2] (ab fi (2 : Int)) (A.take (z.getD (ab fi (2 : Int)).toNat default).params.toNat) (ab fuel 12) ((ab most (150 : Int)) + (ab more (100 : Int))))).kind, (aW (aK z [3, 2] (ab fi (2 : Int)) (A.take (z.getD (ab fi (2 : Int)).toNat default).params.toNat) (ab fuel 12) ((ab most (150 : Int)) + (ab more (100 : Int))))).code, (aW (aK z [3, 2] (ab fi (2 : Int)) (A.take (z.getD (ab fi (2 : Int)).toNat default).params.toNat) (ab fuel 12) ((ab most (150 : Int)) + (ab more (100 : Int))))).out, (aW (aK z [3, 2] (ab fi (2 : Int)) (A.take (z.getD (ab fi (2 : Int)).toNat default).params.toNat) (ab fuel 12) ((ab most (150 : Int)) + (ab more (100 : Int))))).val⟩ : OutT))))) (gX rfl T rfl) rfl rfl ?_
    refine dr (v := (.bool (decide ((⟨(aW (aK z [3, 2] (ab fi (2 : Int)) (A.take (z.getD (ab fi (2 : Int)).toNat default).params.toNat) (ab fuel 12) (ab most (150 : Int)))).kind, (aW (aK z [3, 2] (ab fi (2 : Int)) (A.take (z.getD (ab fi (2 : Int)).toNat default).params.toNat) (ab fuel 12) (ab most (150 : Int)))).code, (aW (aK z [3, 2] (ab fi (2 : Int)) (A.take (z.getD (ab fi (2 : Int)).toNat default).params.toNat) (ab fuel 12) (ab most (150 : Int)))).out, (aW (aK z [3, 2] (ab fi (2 : Int)) (A.take (z.getD (ab fi (2 : Int)).toNat default).params.toNat) (ab fuel 12) (ab most (150 : Int)))).val⟩ : OutT) = (⟨(aW (aK z [3, 2] (ab fi (2 : Int)) (A.take (z.getD (ab fi (2 : Int)).toNat default).params.toNat) (ab fuel 12) ((ab most (150 : Int)) + (ab more (100 : Int))))).kind, (aW (aK z [3, 2] (ab fi (2 : Int)) (A.take (z.getD (ab fi (2 : Int)).toNat default).params.toNat) (ab fuel 12) ((ab most (150 : Int)) + (ab more (100 : Int))))).code, (aW (aK z [3, 2] (ab fi (2 : Int)) (A.take (z.getD (ab fi (2 : Int)).toNat default).params.toNat) (ab fuel 12) ((ab most (150 : Int)) + (ab more (100 : Int))))).out, (aW (aK z [3, 2] (ab fi (2 : Int)) (A.take (z.getD (ab fi (2 : Int)).toNat default).params.toNat) (ab fuel 12) ((ab most (150 : Int)) + (ab more (100 : Int))))).val⟩ : OutT))))) (fW rfl E rfl) rfl rfl ?_
    refine wm (.bool (decide ((⟨(aW (aK z [3, 2] (ab fi (2 : Int)) (A.take (z.getD (ab fi (2 : Int)).toNat default).params.toNat) (ab fuel 12) (ab most (150 : Int)))).kind, (aW (aK z [3, 2] (ab fi (2 : Int)) (A.take (z.getD (ab fi (2 : Int)).toNat default).params.toNat) (ab fuel 12) (ab most (150 : Int)))).code, (aW (aK z [3, 2] (ab fi (2 : Int)) (A.take (z.getD (ab fi (2 : Int)).toNat default).params.toNat) (ab fuel 12) (ab most (150 : Int)))).out, (aW (aK z [3, 2] (ab fi (2 : Int)) (A.take (z.getD (ab fi (2 : Int)).toNat default).params.toNat) (ab fuel 12) (ab most (150 : Int)))).val⟩ : OutT) = (⟨(aW (aK z [3, 2] (ab fi (2 : Int)) (A.take (z.getD (ab fi (2 : Int)).toNat default).params.toNat) (ab fuel 12) ((ab most (150 : Int)) + (ab more (100 : Int))))).kind, (aW (aK z [3, 2] (ab fi (2 : Int)) (A.take (z.getD (ab fi (2 : Int)).toNat default).params.toNat) (ab fuel 12) ((ab most (150 : Int)) + (ab more (100 : Int))))).code, (aW (aK z [3, 2] (ab fi (2 : Int)) (A.take (z.getD (ab fi (2 : Int)).toNat default).params.toNat) (ab fuel 12) ((ab most (150 : Int)) + (ab more (100 : Int))))).out, (aW (aK z [3, 2] (ab fi (2 : Int)) (A.take (z.getD (ab fi (2 : Int)).toNat default).params.toNat) (ab fuel 12) ((ab most (150 : Int)) + (ab more (100 : Int))))).val⟩ : OutT)))) rfl rfl rfl ?_
    refine wo_gsT (v := (decide ((⟨(aW (aK z [3, 2] (ab fi (2 : Int)) (A.take (z.getD (ab fi (2 : Int)).toNat default).params.toNat) (ab fuel 12) (ab most (150 : Int)))).kind, (aW (aK z [3, 2] (ab fi (2 : Int)) (A.take (z.getD (ab fi (2 : Int)).toNat default).params.toNat) (ab fuel 12) (ab most (150 : Int)))).code, (aW (aK z [3, 2] (ab fi (2 : Int)) (A.take (z.getD (ab fi (2 : Int)).toNat default).params.toNat) (ab fuel 12) (ab most (150 : Int)))).out, (aW (aK z [3, 2] (ab fi (2 : Int)) (A.take (z.getD (ab fi (2 : Int)).toNat default).params.toNat) (ab fuel 12) (ab most (150 : Int)))).val⟩ : OutT) = (⟨(aW (aK z [3, 2] (ab fi (2 : Int)) (A.take (z.getD (ab fi (2 : Int)).toNat default).params.toNat) (ab fuel 12) ((ab most (150 : Int)) + (ab more (100 : Int))))).kind, (aW (aK z [3, 2] (ab fi (2 : Int)) (A.take (z.getD (ab fi (2 : Int)).toNat default).params.toNat) (ab fuel 12) ((ab most (150 : Int)) + (ab more (100 : Int))))).code, (aW (aK z [3, 2] (ab fi (2 : Int)) (A.take (z.getD (ab fi (2 : Int)).toNat default).params.toNat) (ab fuel 12) ((ab most (150 : Int)) + (ab more (100 : Int))))).out, (aW (aK z [3, 2] (ab fi (2 : Int)) (A.take (z.getD (ab fi (2 : Int)).toNat default).params.toNat) (ab fuel 12) ((ab most (150 : Int)) + (ab more (100 : Int))))).val⟩ : OutT)))) rfl rfl (fun ap => ?_) (fun ap => ?_)
    ·
     have b5 := ap
     try simp only [BS] at b5
     refine aJ (ax rfl rfl rfl) rfl rfl (ex_c 38 (HS.call U) hT) ?_
     rintro _ e2 ⟨hC, rfl, rfl, rfl⟩
     refine dr (v := (.bool true)) (gX rfl ap rfl) rfl rfl ?_
     refine wa (.bool true) rfl rfl rfl ?_
     refine iY ?_
     exact aA ⟨rfl, ⟨_, (fT fR b0), HS.sub U (List.Sublist.refl _)⟩, (Lu rfl (Lu rfl (Lu rfl (Lu rfl (Lu rfl (Lu rfl (Lu rfl (Lu rfl (Lu rfl (Lu rfl (Lu rfl (Lu rfl (Lu rfl (Lu rfl Lr)))))))))))))), (agC (congrArg Value.bool (show true = ((!((aK z [3, 2] (ab fi (2 : Int)) (A.take (z.getD (ab fi (2 : Int)).toNat default).params.toNat) (ab fuel 12) (ab most (150 : Int))).isSome)) || ((aK z [3, 2] (ab fi (2 : Int)) (A.take (z.getD (ab fi (2 : Int)).toNat default).params.toNat) (ab fuel 12) ((ab most (150 : Int)) + (ab more (100 : Int)))).isSome && decide ((⟨(aW (aK z [3, 2] (ab fi (2 : Int)) (A.take (z.getD (ab fi (2 : Int)).toNat default).params.toNat) (ab fuel 12) (ab most (150 : Int)))).kind, (aW (aK z [3, 2] (ab fi (2 : Int)) (A.take (z.getD (ab fi (2 : Int)).toNat default).params.toNat) (ab fuel 12) (ab most (150 : Int)))).code, (aW (aK z [3, 2] (ab fi (2 : Int)) (A.take (z.getD (ab fi (2 : Int)).toNat default).params.toNat) (ab fuel 12) (ab most (150 : Int)))).out, (aW (aK z [3, 2] (ab fi (2 : Int)) (A.take (z.getD (ab fi (2 : Int)).toNat default).params.toNat) (ab fuel 12) (ab most (150 : Int)))).val⟩ : OutT) = (⟨(aW (aK z [3, 2] (ab fi (2 : Int)) (A.take (z.getD (ab fi (2 : Int)).toNat default).params.toNat) (ab fuel 12) ((ab most (150 : Int)) + (ab more (100 : Int))))).kind, (aW (aK z [3, 2] (ab fi (2 : Int)) (A.take (z.getD (ab fi (2 : Int)).toNat default).params.toNat) (ab fuel 12) ((ab most (150 : Int)) + (ab more (100 : Int))))).code, (aW (aK z [3, 2] (ab fi (2 : Int)) (A.take (z.getD (ab fi (2 : Int)).toNat default).params.toNat) (ab fuel 12) ((ab most (150 : Int)) + (ab more (100 : Int))))).out, (aW (aK z [3, 2] (ab fi (2 : Int)) (A.take (z.getD (ab fi (2 : Int)).toNat default).params.toNat) (ab fuel 12) ((ab most (150 : Int)) + (ab more (100 : Int))))).val⟩ : OutT)))) by first | rfl | simp only [↓E, ↓T, ↓ap, BT] | grind)) agN)⟩
    ·
     have b5 := ap
     try simp only [BS] at b5
     refine dr (v := (.bool false)) (fW rfl ap rfl) rfl rfl ?_
     refine wa (.bool false) rfl rfl rfl ?_
     refine iY ?_
     exact aA ⟨rfl, ⟨_, (fT fR b0), HS.sub U (List.Sublist.refl _)⟩, (Lu rfl (Lu rfl (Lu rfl (Lu rfl (Lu rfl (Lu rfl (Lu rfl (Lu rfl (Lu rfl (Lu rfl (Lu rfl (Lu rfl (Lu rfl (Lu rfl Lr)))))))))))))), (agC (congrArg Value.bool (show false = ((!((aK z [3, 2] (ab fi (2 : Int)) (A.take (z.getD (ab fi (2 : Int)).toNat default).params.toNat) (ab fuel 12) (ab most (150 : Int))).isSome)) || ((aK z [3, 2] (ab fi (2 : Int)) (A.take (z.getD (ab fi (2 : Int)).toNat default).params.toNat) (ab fuel 12) ((ab most (150 : Int)) + (ab more (100 : Int)))).isSome && decide ((⟨(aW (aK z [3, 2] (ab fi (2 : Int)) (A.take (z.getD (ab fi (2 : Int)).toNat default).params.toNat) (ab fuel 12) (ab most (150 : Int)))).kind, (aW (aK z [3, 2] (ab fi (2 : Int)) (A.take (z.getD (ab fi (2 : Int)).toNat default).params.toNat) (ab fuel 12) (ab most (150 : Int)))).code, (aW (aK z [3, 2] (ab fi (2 : Int)) (A.take (z.getD (ab fi (2 : Int)).toNat default).params.toNat) (ab fuel 12) (ab most (150 : Int)))).out, (aW (aK z [3, 2] (ab fi (2 : Int)) (A.take (z.getD (ab fi (2 : Int)).toNat default).params.toNat) (ab fuel 12) (ab most (150 : Int)))).val⟩ : OutT) = (⟨(aW (aK z [3, 2] (ab fi (2 : Int)) (A.take (z.getD (ab fi (2 : Int)).toNat default).params.toNat) (ab fuel 12) ((ab most (150 : Int)) + (ab more (100 : Int))))).kind, (aW (aK z [3, 2] (ab fi (2 : Int)) (A.take (z.getD (ab fi (2 : Int)).toNat default).params.toNat) (ab fuel 12) ((ab most (150 : Int)) + (ab more (100 : Int))))).code, (aW (aK z [3, 2] (ab fi (2 : Int)) (A.take (z.getD (ab fi (2 : Int)).toNat default).params.toNat) (ab fuel 12) ((ab most (150 : Int)) + (ab more (100 : Int))))).out, (aW (aK z [3, 2] (ab fi (2 : Int)) (A.take (z.getD (ab fi (2 : Int)).toNat default).params.toNat) (ab fuel 12) ((ab most (150 : Int)) + (ab more (100 : Int))))).val⟩ : OutT)))) by first | rfl | simp only [↓E, ↓T, ↓ap, BT] | grind)) agN)⟩
   ·
    have b4 := T
    try simp only [BS] at b4
    refine wo_gf1 rfl T rfl ?_
    refine wo_gf1 rfl T rfl ?_
    refine jx rfl E ?_
    refine dr (v := (.bool false)) (fW rfl T rfl) rfl rfl ?_
    refine dr (v := (.bool false)) (fW rfl E rfl) rfl rfl ?_
    refine wm (.bool false) rfl rfl rfl ?_
    refine wo_gf1 rfl rfl rfl ?_
    refine dr (v := (.bool false)) (fW rfl rfl rfl) rfl rfl ?_
    refine wa (.bool false) rfl rfl rfl ?_
    refine iY ?_
    exact aA ⟨rfl, ⟨_, fR, HS.sub O (List.Sublist.refl _)⟩, (Lu rfl (Lu rfl (Lu rfl (Lu rfl (Lu rfl (Lu rfl (Lu rfl (Lu rfl (Lu rfl (Lu rfl (Lu rfl (Lu rfl (Lu rfl (Lu rfl Lr)))))))))))))), (agC (congrArg Value.bool (show false = ((!((aK z [3, 2] (ab fi (2 : Int)) (A.take (z.getD (ab fi (2 : Int)).toNat default).params.toNat) (ab fuel 12) (ab most (150 : Int))).isSome)) || ((aK z [3, 2] (ab fi (2 : Int)) (A.take (z.getD (ab fi (2 : Int)).toNat default).params.toNat) (ab fuel 12) ((ab most (150 : Int)) + (ab more (100 : Int)))).isSome && decide ((⟨(aW (aK z [3, 2] (ab fi (2 : Int)) (A.take (z.getD (ab fi (2 : Int)).toNat default).params.toNat) (ab fuel 12) (ab most (150 : Int)))).kind, (aW (aK z [3, 2] (ab fi (2 : Int)) (A.take (z.getD (ab fi (2 : Int)).toNat default).params.toNat) (ab fuel 12) (ab most (150 : Int)))).code, (aW (aK z [3, 2] (ab fi (2 : Int)) (A.take (z.getD (ab fi (2 : Int)).toNat default).params.toNat) (ab fuel 12) (ab most (150 : Int)))).out, (aW (aK z [3, 2] (ab fi (2 : Int)) (A.take (z.getD (ab fi (2 : Int)).toNat default).params.toNat) (ab fuel 12) (ab most (150 : Int)))).val⟩ : OutT) = (⟨(aW (aK z [3, 2] (ab fi (2 : Int)) (A.take (z.getD (ab fi (2 : Int)).toNat default).params.toNat) (ab fuel 12) ((ab most (150 : Int)) + (ab more (100 : Int))))).kind, (aW (aK z [3, 2] (ab fi (2 : Int)) (A.take (z.getD (ab fi (2 : Int)).toNat default).params.toNat) (ab fuel 12) ((ab most (150 : Int)) + (ab more (100 : Int))))).code, (aW (aK z [3, 2] (ab fi (2 : Int)) (A.take (z.getD (ab fi (2 : Int)).toNat default).params.toNat) (ab fuel 12) ((ab most (150 : Int)) + (ab more (100 : Int))))).out, (aW (aK z [3, 2] (ab fi (2 : Int)) (A.take (z.getD (ab fi (2 : Int)).toNat default).params.toNat) (ab fuel 12) ((ab most (150 : Int)) + (ab more (100 : Int))))).val⟩ : OutT)))) by first | rfl | simp only [↓E, ↓T, BT] | grind)) agN)⟩
  ·
   have b3 := E
   try simp only [BS] at b3
   refine wo_gf0 rfl E rfl ?_
   refine wo_gn rfl rfl ?_
   refine wo_gn rfl rfl ?_
   refine wo_gn rfl rfl ?_
   refine wo_gf0 rfl E rfl ?_
   refine dr (v := (.bool true)) (gX rfl E rfl) rfl rfl ?_
   refine wm (.bool true) rfl rfl rfl ?_
   refine jx rfl rfl ?_
   refine aJ (ax rfl rfl rfl) rfl rfl (ex_c 38 (HS.call O) hT) ?_
   rintro _ e1 ⟨hD, rfl, rfl, rfl⟩
   refine dr (v := (.bool true)) (gX rfl rfl rfl) rfl rfl ?_
   refine wa (.bool true) rfl rfl rfl ?_
   refine iY ?_
   exact aA ⟨rfl, ⟨_, fR, HS.sub O (List.Sublist.refl _)⟩, (Lu rfl (Lu rfl (Lu rfl (Lu rfl (Lu rfl (Lu rfl (Lu rfl (Lu rfl (Lu rfl (Lu rfl (Lu rfl (Lu rfl (Lu rfl (Lu rfl Lr)))))))))))))), (agC (congrArg Value.bool (show true = ((!((aK z [3, 2] (ab fi (2 : Int)) (A.take (z.getD (ab fi (2 : Int)).toNat default).params.toNat) (ab fuel 12) (ab most (150 : Int))).isSome)) || ((aK z [3, 2] (ab fi (2 : Int)) (A.take (z.getD (ab fi (2 : Int)).toNat default).params.toNat) (ab fuel 12) ((ab most (150 : Int)) + (ab more (100 : Int)))).isSome && decide ((⟨(aW (aK z [3, 2] (ab fi (2 : Int)) (A.take (z.getD (ab fi (2 : Int)).toNat default).params.toNat) (ab fuel 12) (ab most (150 : Int)))).kind, (aW (aK z [3, 2] (ab fi (2 : Int)) (A.take (z.getD (ab fi (2 : Int)).toNat default).params.toNat) (ab fuel 12) (ab most (150 : Int)))).code, (aW (aK z [3, 2] (ab fi (2 : Int)) (A.take (z.getD (ab fi (2 : Int)).toNat default).params.toNat) (ab fuel 12) (ab most (150 : Int)))).out, (aW (aK z [3, 2] (ab fi (2 : Int)) (A.take (z.getD (ab fi (2 : Int)).toNat default).params.toNat) (ab fuel 12) (ab most (150 : Int)))).val⟩ : OutT) = (⟨(aW (aK z [3, 2] (ab fi (2 : Int)) (A.take (z.getD (ab fi (2 : Int)).toNat default).params.toNat) (ab fuel 12) ((ab most (150 : Int)) + (ab more (100 : Int))))).kind, (aW (aK z [3, 2] (ab fi (2 : Int)) (A.take (z.getD (ab fi (2 : Int)).toNat default).params.toNat) (ab fuel 12) ((ab most (150 : Int)) + (ab more (100 : Int))))).code, (aW (aK z [3, 2] (ab fi (2 : Int)) (A.take (z.getD (ab fi (2 : Int)).toNat default).params.toNat) (ab fuel 12) ((ab most (150 : Int)) + (ab more (100 : Int))))).out, (aW (aK z [3, 2] (ab fi (2 : Int)) (A.take (z.getD (ab fi (2 : Int)).toNat default).params.toNat) (ab fuel 12) ((ab most (150 : Int)) + (ab more (100 : Int))))).val⟩ : OutT)))) by first | rfl | simp only [↓E, BT] | grind)) agN)⟩
 ·
  rintro hr hn ⟨he, dl, dv⟩
  refine ay 1 rfl ?_
  refine am ⟨.inr rfl, _, rfl, ((!((aK z [3, 2] (ab fi (2 : Int)) (A.take (z.getD (ab fi (2 : Int)).toNat default).params.toNat) (ab fuel 12) (ab most (150 : Int))).isSome)) || ((aK z [3, 2] (ab fi (2 : Int)) (A.take (z.getD (ab fi (2 : Int)).toNat default).params.toNat) (ab fuel 12) ((ab most (150 : Int)) + (ab more (100 : Int)))).isSome && decide ((⟨(aW (aK z [3, 2] (ab fi (2 : Int)) (A.take (z.getD (ab fi (2 : Int)).toNat default).params.toNat) (ab fuel 12) (ab most (150 : Int)))).kind, (aW (aK z [3, 2] (ab fi (2 : Int)) (A.take (z.getD (ab fi (2 : Int)).toNat default).params.toNat) (ab fuel 12) (ab most (150 : Int)))).code, (aW (aK z [3, 2] (ab fi (2 : Int)) (A.take (z.getD (ab fi (2 : Int)).toNat default).params.toNat) (ab fuel 12) (ab most (150 : Int)))).out, (aW (aK z [3, 2] (ab fi (2 : Int)) (A.take (z.getD (ab fi (2 : Int)).toNat default).params.toNat) (ab fuel 12) (ab most (150 : Int)))).val⟩ : OutT) = (⟨(aW (aK z [3, 2] (ab fi (2 : Int)) (A.take (z.getD (ab fi (2 : Int)).toNat default).params.toNat) (ab fuel 12) ((ab most (150 : Int)) + (ab more (100 : Int))))).kind, (aW (aK z [3, 2] (ab fi (2 : Int)) (A.take (z.getD (ab fi (2 : Int)).toNat default).params.toNat) (ab fuel 12) ((ab most (150 : Int)) + (ab more (100 : Int))))).code, (aW (aK z [3, 2] (ab fi (2 : Int)) (A.take (z.getD (ab fi (2 : Int)).toNat default).params.toNat) (ab fuel 12) ((ab most (150 : Int)) + (ab more (100 : Int))))).out, (aW (aK z [3, 2] (ab fi (2 : Int)) (A.take (z.getD (ab fi (2 : Int)).toNat default).params.toNat) (ab fuel 12) ((ab most (150 : Int)) + (ab more (100 : Int))))).val⟩ : OutT)))), _, (fT (fT (fT (fT (fT (c7) b6) a1) aq) bl) dl), (HS.forget dv), rfl, (by exact more_fin (fun h => run_more ⟨by omega, by omega⟩ h))⟩
end Go.Proofs.YtlabedbmgmfbaaaDoor.lx
