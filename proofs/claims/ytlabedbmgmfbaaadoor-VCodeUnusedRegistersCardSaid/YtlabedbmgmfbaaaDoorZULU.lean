/-
 The law that more registers and unreachable blocks change no outcome, by a symbolic run. No condition but that the table lies as laid.
-/
import Derived.Test.YtlabedbmgmfbaaaDoorZUIT
import Derived.Test.YtlabedbmgmfbaaaDoorZUIU
noncomputable section
namespace Go.Proofs.YtlabedbmgmfbaaaDoor.lu
open Go.R
set_option maxRecDepth 10000
set_option linter.unusedVariables false
open m1 m2 m3 m4 m5 m6 m7 m8 iw ia ib ic is_ id_ ir it iu
def bdP (l : List VFnT) : Prop := ∀ k j, ((l.getD k default).blocks.getD j default).ins.length ≤ 1000
theorem dr {l : List VFnT} (h : bdP l) : ∀ x ∈ l, ∀ j, (x.blocks.getD j default).ins.length ≤ 1000 := fun x hx j => by
 obtain ⟨k, hk, rfl⟩ := List.mem_iff_getElem.1 hx
 have := h k j
 rwa [List.getD_eq_getElem?_getD (l := l), List.getElem?_eq_getElem hk] at this
theorem bd_p {p : List VFnT} (h : p.length = 2 ∧ vfG (p.getD 0 default) 2 ∧ vfG (p.getD 1 default) 1) : bdP p := fun k j => by
 rcases Nat.lt_or_ge k 2 with hk | hk
 ·
  have : k = 0 ∨ k = 1 := by omega
  rcases this with rfl | rfl
  ·
   exact Nat.le_trans (h.2.1.ins j) (by omega)
  ·
   exact Nat.le_trans (h.2.2.ins j) (by omega)
 ·
  have z := h.1
  rw [dR (l := p) (by omega)]; exact Nat.zero_le _
theorem g_at {p : List VFnT} (h : p.length = 2 ∧ vfG (p.getD 0 default) 2 ∧ vfG (p.getD 1 default) 1) {k : Nat} (hk : k < 2) : ∃ n, 0 ≤ n ∧ n ≤ 2 ∧ vfG (p.getD k default) n := by
 have : k = 0 ∨ k = 1 := by omega
 rcases this with rfl | rfl
 ·
  exact ⟨2, by omega, by omega, h.2.1⟩
 ·
  exact ⟨1, by omega, by omega, h.2.2⟩
theorem vp_good {p : List VFnT} (h : p.length = 2 ∧ vfG (p.getD 0 default) 2 ∧ vfG (p.getD 1 default) 1) : vpV p [3, 2] = true := by
 have hp : p = [p.getD 0 default, p.getD 1 default] := by
  obtain ⟨h0, _⟩ := h
  match p, h0 with
  | [a, b], _ => rfl
 have hF : ∀ {x : VFnT} {n : Int}, vfG x n → vpF p 2 x = true := by
  intro x n hx
  refine vpF_yes hx.val (List.all_eq_true.2 fun b hb => List.all_eq_true.2 fun v hv => ea.2 ?_)
  have hc := List.all_eq_true.1 (List.all_eq_true.1 hx.ck b hb) v hv
  unfold ckI at hc
  have hc := of_decide_eq_true hc
  have E := h.2.1.par
  have z := h.2.2.par
  rw [h.1]
  refine ⟨fun I => ?_, fun A => hc.2 A⟩
  rcases hc.1 I with ⟨hn, ha⟩ | ⟨hn, ha⟩
  ·
   rw [hn]
   refine ⟨by decide, ?_⟩
   rw [ha]; exact E
  ·
   rw [hn]
   refine ⟨by decide, ?_⟩
   rw [ha]; exact z
 unfold vpV
 have z : p.all (vpF p (([3, 2] : List Int).length : Int)) = true := List.all_eq_true.2 fun x hx => by
  rw [hp] at hx
  simp only [List.mem_cons, List.not_mem_nil, or_false] at hx
  rcases hx with rfl | rfl
  ·
   exact hF h.2.1
  ·
   exact hF h.2.2
 rw [z, h.1]; rfl
theorem up_set {d : Int} {p q : List VFnT} {k : Nat} {x y : VFnT} (h : q = (p.take k).map (upF d) ++ p.drop k) (hk : k < p.length) (hx : x = q.getD k default) (hy : y = ⟨x.params, x.regs + d, x.blocks ++ [trapB]⟩) : q.set k y = (p.take (k + 1)).map (upF d) ++ p.drop (k + 1) := by
 have e : q.getD k default = p.getD k default := by
  rw [h, List.getD_eq_getElem?_getD, List.getElem?_append_right (by rw [List.length_map, List.length_take]; omega), List.getD_eq_getElem?_getD, List.length_map, List.length_take, List.getElem?_drop]
  congr 3; omega
 have z : p.drop k = p.getD k default :: p.drop (k + 1) := by rw [List.getD_eq_getElem?_getD, List.getElem?_eq_getElem hk]; exact List.drop_eq_getElem_cons hk
 have hl : ((p.take k).map (upF d)).length = k := by rw [List.length_map, List.length_take]; omega
 rw [hy, hx, e, h, z, List.set_append_right _ _ (by omega), hl, Nat.sub_self, List.set_cons_zero, List.take_add_one, List.map_append, List.getElem?_eq_getElem hk, List.getD_eq_getElem?_getD, List.getElem?_eq_getElem hk, List.append_assoc]
 rfl
theorem up_at {d : Int} {p q : List VFnT} {k : Nat} (h : q = (p.take k).map (upF d) ++ p.drop k) (hk : k < p.length) : q.getD k default = p.getD k default := by
 rw [h, List.getD_eq_getElem?_getD, List.getElem?_append_right (by rw [List.length_map, List.length_take]; omega), List.getD_eq_getElem?_getD, List.length_map, List.length_take, List.getElem?_drop]
 congr 3; omega
theorem up_all {d : Int} {p q : List VFnT} {k : Nat} (h : q = (p.take k).map (upF d) ++ p.drop k) (hk : p.length ≤ k) : q = p.map (upF d) := by rw [h, List.take_of_length_le hk, List.drop_eq_nil_of_le hk, List.append_nil]
theorem g_lim {p : List VFnT} (h : p.length = 2 ∧ vfG (p.getD 0 default) 2 ∧ vfG (p.getD 1 default) 1) : ∀ c ∈ p, c.regs ≤ 2000 ∧ c.blocks.length ≤ 900 := fun c hc => by
 have hp : p = [p.getD 0 default, p.getD 1 default] := by
  obtain ⟨h0, _⟩ := h
  match p, h0 with
  | [a, b], _ => rfl
 rw [hp] at hc
 simp only [List.mem_cons, List.not_mem_nil, or_false] at hc
 have z := h.2.1.reg; have A := h.2.2.reg; have E := h.2.1.nb; have I := h.2.2.nb
 rcases hc with rfl | rfl <;> omega
theorem bd_up {d : Int} {p : List VFnT} (h : bdP p) : bdP (p.map (upF d)) := fun k j => by
 rcases Nat.lt_or_ge k p.length with hk | hk
 ·
  rw [fV (upF d) hk]
  show ((_ ++ [trapB]).getD j default).ins.length ≤ 1000
  rcases Nat.lt_trichotomy j (p.getD k default).blocks.length with hj | hj | hj
  ·
   rw [getD_left hj]; exact h k j
  ·
   subst hj; rw [List.getD_eq_getElem?_getD, List.getElem?_append_right (Nat.le_refl _), Nat.sub_self]; exact Nat.zero_le _
  ·
   rw [dR (by rw [List.length_append, List.length_singleton]; omega)]; exact Nat.zero_le _
 ·
  rw [dR (l := p.map (upF d)) (by rw [List.length_map]; exact hk)]; exact Nat.zero_le _
theorem set_twice {d : Int} {p q : List VFnT} {k : Nat} {x y : VFnT} (h : q = (p.take k).map (upF d) ++ p.drop k) (hk : k < p.length) (hy : y = ⟨(q.getD k default).params, (q.getD k default).regs + d, (q.getD k default).blocks ++ [trapB]⟩) : (q.set k x).set k y = (p.take (k + 1)).map (upF d) ++ p.drop (k + 1) := by
 rw [List.set_set]; exact up_set h hk rfl hy
theorem jR {q : List VFnT} {k : Nat} {x : VFnT} (hk : k < q.length) : (q.set k x).getD k default = x := by rw [List.getD_eq_getElem?_getD, List.getElem?_set_self hk]; rfl
theorem un_fin {X Y : Option RunS} {d : Int} (h : Y = X.map (upS d)) : ((X.isSome == Y.isSome) && decide (be X = be Y)) = true := by
 subst h; cases X <;> simp [be, upS]
theorem ex_c (_ : FuncId) {F : Fz} {H : Heap} {R : List Fp} (hs : HS (.of H []) F H [] R) (hT : TB 37 tabC F) : C Tryd.prog 1 (KT 60 38 37 tabC) 38 [] H fun v H' => ∃ (r : Bool), H' = H ∧ v = .bool r ∧ r = true :=
 ⟨0, .bool true, H, by unfold call iZ; rw [(hT.heap hs).known (by decide)], true, rfl, rfl, rfl⟩
set_option maxHeartbeats 2000000 in
theorem unused_law {a_l : Option Addr} {k_l : Nat} (l : List Int) {a_m : Option Addr} {k_m : Nat} (m : List Int) (fi : Int) (a : Int) (b : Int) (w : Int) (fuel : Int) (more : Int) {F : Fz} {H : Heap} {R : List Fp} (hs : HS (.of H []) F H [] R) (hl : SR F (.slice a_l l.length k_l) l) (hm : SR F (.slice a_m m.length k_m) m) (hfi : in64 fi) (ha : in64 a) (hb : in64 b) (hw : in64 w) (hfuel : in64 fuel) (hmore : in64 more) (hT : TB 37 tabC F) : C Tryd.prog 1 (KT 60 38 37 tabC) 13 [(.slice a_l l.length k_l), (.slice a_m m.length k_m), (iI fi), (iI a), (iI b), (iI w), (iI fuel), (iI more)] H fun v H' => ∃ (r : Bool) (F' : Fz), Fz.le F F' ∧ HS (.of H []) F' H' [] R ∧ v = .bool r ∧ r = true := by
 refine aK Tryd.func13 rfl rfl ?_
 refine aw 1 rfl ?_
 refine wR 2 [] 16 16 [] [(16, (.bool false))] trivial rfl fun _ => ?_
 refine ah ?_
 refine wRo 2 0 [] 27 28 [] [(27, (.slice a_l l.length k_l)), (28, (.slice a_m m.length k_m))] trivial rfl fun _ => ?_
 refine aJ (ay rfl rfl rfl) rfl rfl (m6.vfuncs_c 38 l m (HS.call hs) hl hm hT) ?_
 rintro _ H3 ⟨ap, aq, z, d2, em, q3, F3, g4, a7, rfl, O, ad, rfl, h3⟩
 replace a7 := HS.back hs rfl a7
 have a7 : HS _ _ _ [] _ := a7
 replace hT := hT.mono g4
 refine wRo 5 3 [] 30 31 [17, 18, 26] [(17, (.slice ap z.length aq)), (18, (.slice d2 [3, 2].length em))] trivial rfl fun _ => ?_
 refine ao 2 rfl ?_
 have h_ : z.length = 2 ∧ vfG (z.getD 0 default) 2 ∧ vfG (z.getD 1 default) 1 := by assumption
 have h_l := h_.1
 have hpf := dA fi 2 (by omega)
 obtain ⟨gn, k0, k3, hgn⟩ := g_at h_ (k := (ab fi 2).toNat) (by omega)
 have hgp := hgn.par
 have hgl : z.getD (ab fi 2).toNat default ∈ z := by rw [List.getD_eq_getElem?_getD, List.getElem?_eq_getElem (by omega)]; exact List.getElem_mem _
 have kW := dA fi (2 : Int)
 refine wR 2 [(1, .o (iI (ab fi (2 : Int))))] 32 33 [2] [(2, (iI (ab fi (2 : Int))))] (vA (m1.fP 38 fi (2) H3 (by first | omega | (dsimp only; omega))) trivial) rfl fun _ => ?_
 refine aP rfl ?_
 refine fm (iI a) rfl rfl rfl ?_
 refine fm (iI b) rfl rfl rfl ?_
 refine fm (iI w) rfl rfl rfl ?_
 refine aY (W := []) (ay rfl rfl rfl) rfl rfl rfl (m6.args_c 38 a b w (HS.call a7.log0) (by first | omega | (dsimp only; omega)) (by first | omega | (dsimp only; omega)) (by first | omega | (dsimp only; omega)) hT) (⟨.inl rfl, ⟨.inl rfl, ⟨.inl rfl, trivial⟩⟩⟩) ?_
 rintro _ H7 ⟨kT, k6, A, p7, F7, eb, T, rfl, hE, h7⟩
 refine ⟨Wr.did T.log, fun i1 hy => ?_⟩
 replace T := HS.back a7.log0 rfl T
 replace T := HS.lg T a7 hy
 generalize ({ H7 with log := i1 } : Heap) = h4 at T ⊢
 have T : HS _ _ _ [p7] _ := T
 replace O := O.mono eb
 refine fm (.slice ap z.length aq) rfl rfl rfl ?_
 refine fm (iI (ab fi (2 : Int))) rfl rfl rfl ?_
 refine ai (v := (.pointer (some ⟨sB (.slice ap z.length aq), sO (.slice ap z.length aq) + (ab fi (2 : Int)).toNat * Rp.sz VFnT, none⟩))) (id := .v) (dX (α := VFnT) (j := ab fi (2 : Int)) rfl rfl rfl rfl (SR.sv O T.log0) (by first | omega | (dsimp only; omega)) (by first | omega | (dsimp only; omega))) rfl rfl (aG rfl) (aF _) ?_
 refine ai (v := (.pointer (some ⟨sB (.slice ap z.length aq), sO (.slice ap z.length aq) + (ab fi (2 : Int)).toNat * Rp.sz VFnT, none⟩))) (id := .v) (aZ rfl rfl) rfl rfl (aG rfl) (aF _) ?_
 obtain ⟨kU, ih, h8⟩ := Sv.at (SR.sv O T.log0) (cN (x := default) (show (ab fi (2 : Int)).toNat < z.length from by first | omega | (dsimp only; omega)))
 obtain ⟨ko, ky, rfl, kt, ku, kA⟩ := ih
 refine ai (v := (iI (z.getD (ab fi (2 : Int)).toNat default).params)) (id := .l (sB (.slice ap z.length aq))) (aT (i := 0) rfl rfl h8 rfl rfl) rfl rfl (bj rfl) (⟨.inl rfl, ⟨.inl rfl, ⟨.inl rfl, ⟨.inl rfl, ⟨.inr List.not_mem_nil, ⟨.inr trivial, ⟨.inr trivial, ⟨.inr trivial, trivial⟩⟩⟩⟩⟩⟩⟩⟩) ?_
 refine dV (id := .r) (rs_cutOt (α := Int) (j := (z.getD (ab fi (2 : Int)).toNat default).params.toNat) hE T.log0 (q := 0) rfl rfl rfl rfl (optN (by first | omega | (dsimp only; omega))) (by first | omega | (dsimp only; omega))) rfl rfl (by rintro _ _ _ ⟨_, _, _, hH, _⟩; simp only at hH; subst hH; exact did_r fun b hb => absurd hb List.not_mem_nil) (⟨.inl rfl, ⟨.inl rfl, ⟨.inl rfl, ⟨.inl rfl, ⟨.inl rfl, ⟨.inl rfl, ⟨.inl rfl, ⟨.inl rfl, ⟨.inl rfl, trivial⟩⟩⟩⟩⟩⟩⟩⟩⟩) ?_
 rintro _ _ _ ⟨d1, ei, rfl, b0, c7⟩ hI fd
 simp only at b0; replace b0 := b0.symm; subst b0
 have e2 := HS.lg T.log0 T fd
 generalize ({ { h4 with log := [] } with log := hI } : Heap) = kj at e2 ⊢
 refine fa (.slice d1 (A.take (z.getD (ab fi (2 : Int)).toNat default).params.toNat).length ei) rfl rfl rfl ?_
 refine bX ?_
 refine aw 2 rfl ?_
 refine ah ?_
 refine wm (.slice ap z.length aq) rfl rfl rfl ?_
 have b2 := HS.snoc e2
 have b2 : HS _ _ _ [_, []] _ := b2
 refine bf (d3 (α := VFnT) (q := 1) (OS.nil : OS F7 (.slice none 0 0) ([] : List VFnT) []) b2 rfl rfl rfl (SR.sv O b2) rfl rfl rfl rfl rfl rfl rfl (by first | omega | (rw [jR (by omega)]; simp only [List.length_append, List.length_cons, List.length_nil]; omega) | (simp only [List.length_nil]; omega))) rfl rfl ?_
 rintro _ kH e5 ⟨et, e4, rfl, c4, c8, _⟩
 have c8 : HS _ _ _ [_, e5] _ := c8
 have c4 : OS F7 (.slice et z.length e4) z e5 := c4
 refine wa (.slice et z.length e4) rfl rfl rfl ?_
 refine ao 3 rfl ?_
 have hpo := dA more 9 (by omega)
 have hpu := dA fuel 12 (by omega)
 refine wR 2 [] 1 0 [21] [(21, (iI 0))] trivial rfl fun _ => ?_
 refine aL (fun (mm : Nat) f H' => ∃ (qs : List VFnT) (k : Nat) (E : Option Addr) (I : Nat) (U : Fp) (F' : Fz), Fz.le F7 F' ∧ HS (Base.of H []) F' H' [p7, U] R ∧ OS F' (.slice E qs.length I) qs U ∧ bc f [(2, (iI (ab fi (2 : Int)))), (6, (iI fuel)), (7, (iI more)), (16, (.bool false)), (17, (.slice ap z.length aq)), (18, (.slice d2 [3, 2].length em)), (19, (.slice d1 (A.take (z.getD (ab fi (2 : Int)).toNat default).params.toNat).length ei)), (20, (.slice E qs.length I)), (21, (iI (k : Int)))] ∧ mm = 2 - k ∧ (qs = (z.take k).map (upF (1 + ab more 9)) ++ z.drop k) ∧ (k ≤ 2)) _ ⟨z, 0, et, e4, e5, _, fR, c8, c4, (agC rfl (agC rfl (agC rfl (agC rfl (agC rfl (agC rfl (agC rfl (agC rfl (agC rfl agN))))))))), rfl, (by rfl), (by first | assumption | omega | (simp at *; omega))⟩ ?_
 rintro kz kV g1 ⟨qs, k, E, I, U, f9, a0, a6, J, e0, rfl, hq, hk⟩ hG
 refine aO _ e0 (fun _ => ?_)
 clear e0
 replace hT := (hT.mono eb).mono a0
 replace c7 := c7.mono a0
 replace O := O.mono a0
 replace ad := (ad.mono eb).mono a0
 have hql : qs.length = 2 := by rw [hq, List.length_append, List.length_map, List.length_take, List.length_drop]; omega
 have hqe : k < 2 → qs.getD k default = z.getD k default := fun h => up_at hq (by omega)
 have e1 := fun h : k < 2 => g_lim h_ (z.getD k default) (by rw [List.getD_eq_getElem?_getD, List.getElem?_eq_getElem (by omega)]; exact List.getElem_mem _)
 have hx : ∀ c ∈ z, 0 ≤ c.regs := fun c hc => ((jf (vp_good h_)).lim c hc).2.2.1
 have hv := fun h : k < 2 => hx (z.getD k default) (by rw [List.getD_eq_getElem?_getD, List.getElem?_eq_getElem (by omega)]; exact List.getElem_mem _)
 refine aw 2 rfl ?_
 refine wR 1 [] 46 47 [] [(47, (.bool (decide ((k : Int) < 2))))] trivial rfl fun _ => ?_
 refine au 4 5 (v := (decide ((k : Int) < 2))) rfl rfl rfl rfl (fun ex => ?_) (fun ex => ?_)
 ·
  try simp only [BS] at ex
  have hqk := hqe (by omega); have hqr : (qs.getD k default).regs ≤ 2000 := by rw [hqk]; exact (e1 (by omega)).1
  have hqb : (qs.getD k default).blocks.length ≤ 900 := by rw [hqk]; exact (e1 (by omega)).2
  have k4 : 0 ≤ (qs.getD k default).regs := by rw [hqk]; exact hv (by omega)
  refine aP rfl ?_
  refine fm (.slice E qs.length I) rfl rfl rfl ?_
  refine fm (iI (k : Int)) rfl rfl rfl ?_
  refine ai (v := (.pointer (some ⟨sB (.slice E qs.length I), sO (.slice E qs.length I) + k * Rp.sz VFnT, none⟩))) (id := .v) (dX (α := VFnT) (j := (k : Int)) rfl rfl rfl rfl (OS.sv J a6.log0 (i := 1) rfl) (by first | omega | (dsimp only; omega)) (by first | omega | (dsimp only; omega))) rfl rfl (aG rfl) (aF _) ?_
  refine ai (v := (.pointer (some ⟨sB (.slice E qs.length I), sO (.slice E qs.length I) + k * Rp.sz VFnT + 1, none⟩))) (id := .v) (aZ rfl rfl) rfl rfl (aG rfl) (aF _) ?_
  obtain ⟨kp, hB, hu⟩ := Sv.at (OS.sv J a6.log0 (i := 1) rfl) (cN (x := default) (show k < qs.length from by first | omega | (dsimp only; omega)))
  obtain ⟨jb, kh, rfl, jc, jq, ki⟩ := hB
  refine ai (v := (iI (qs.getD k default).regs)) (id := .l (sB (.slice E qs.length I))) (aT (i := 1) rfl rfl hu rfl rfl) rfl rfl (bj rfl) (⟨.inl rfl, ⟨.inl rfl, ⟨.inl rfl, ⟨.inl rfl, trivial⟩⟩⟩⟩) ?_
  refine fm (iI more) rfl rfl rfl ?_
  have kr := dA more (9 : Int)
  refine aY (W := []) (ay rfl rfl rfl) rfl rfl rfl (m1.pick_c 38 more (9) _ (by first | omega | (dsimp only; omega))) (⟨.inl rfl, ⟨.inr List.not_mem_nil, ⟨.inr trivial, ⟨.inr trivial, ⟨.inr trivial, ⟨.inr trivial, trivial⟩⟩⟩⟩⟩⟩) ?_
  rintro _ _ ⟨k9, rfl, rfl, rfl⟩
  refine ⟨fun b hb => absurd hb List.not_mem_nil, fun hK f1 => ?_⟩
  have b3 := HS.lg a6.log0 a6 f1
  generalize ({ { g1 with log := [] } with log := hK } : Heap) = kk at b3 ⊢
  refine ai (v := (iI (1 + (ab more (9 : Int))))) (id := .v) (ap_add rfl rfl (jD (n := 1 + (ab more (9 : Int))) (by first | omega | (dsimp only; omega)))) rfl rfl (aG rfl) (aF _) ?_
  refine ai (v := (iI ((qs.getD k default).regs + (1 + (ab more (9 : Int)))))) (id := .v) (ap_add rfl rfl (jD (n := (qs.getD k default).regs + (1 + (ab more (9 : Int)))) (by first | omega | (dsimp only; omega)))) rfl rfl (aG rfl) (aF _) ?_
  refine ai (v := (.pointer (some ⟨sB (.slice E qs.length I), sO (.slice E qs.length I) + k * Rp.sz VFnT, none⟩))) (id := .v) (dX (α := VFnT) (j := (k : Int)) rfl rfl rfl rfl (OS.sv J b3.log0 (i := 1) rfl) (by first | omega | (dsimp only; omega)) (by first | omega | (dsimp only; omega))) rfl rfl (aG rfl) (aF _) ?_
  refine ai (v := (.pointer (some ⟨sB (.slice E qs.length I), sO (.slice E qs.length I) + k * Rp.sz VFnT + 1, none⟩))) (id := .v) (aZ rfl rfl) rfl rfl (aG rfl) (aF _) ?_
  refine iT (id := .x (U.map Prod.fst)) (rs_st (α := VFnT) (j := k) (off := 1) (q := 1) (⟨(qs.getD k default).params, (qs.getD k default).regs + (1 + (ab more (9 : Int))), (qs.getD k default).blocks⟩ : VFnT) J b3.log0 rfl rfl rfl rfl rfl rfl rfl rfl (cN (x := default) (by first | omega | (dsimp only; omega))) rfl (by rintro cs ⟨g9, hg, rfl, e6, he, hf⟩; exact ⟨Nat.le_of_ble_eq_true rfl, ⟨g9, hg, rfl, e6, by first | omega | (dsimp only; omega), hf⟩⟩)) rfl (by rintro _ _ g5 ⟨Z, _, hwr⟩; exact d6 rfl rfl (Wr.did hwr)) (⟨.inl rfl, ⟨.inl rfl, ⟨.inl rfl, ⟨.inl rfl, ⟨.inl rfl, ⟨.inl rfl, ⟨.inl rfl, ⟨.inl rfl, ⟨.inl rfl, ⟨.inl rfl, ⟨.inl rfl, trivial⟩⟩⟩⟩⟩⟩⟩⟩⟩⟩⟩) ?_
  rintro _ hY g5 ⟨Z, ag, _⟩ hM f2
  replace ag := HS.lg ag b3 f2
  generalize ({ hY with log := hM } : Heap) = kl at ag ⊢
  have ag : HS _ _ _ [_, g5] _ := ag
  have kf := OS.len' Z
  refine bX ?_
  refine aw 1 rfl ?_
  refine ah ?_
  obtain ⟨bl, e3⟩ := Sv.view (OS.sv Z ag (i := 1) rfl)
  obtain ⟨jw, kd, f6⟩ := VFnT.fx (e3 k)
  refine wRo 7 0 [(6, .o (.slice (cA (bl k) 2) (((qs.set k (⟨(qs.getD k default).params, (qs.getD k default).regs + (1 + (ab more (9 : Int))), (qs.getD k default).blocks⟩ : VFnT)).getD k default).blocks).length (cK (bl k) 2)))] 61 67 [] [(61, (.slice E qs.length I)), (62, (iI (k : Int))), (67, (.slice (cA (bl k) 2) (((qs.set k (⟨(qs.getD k default).params, (qs.getD k default).regs + (1 + (ab more (9 : Int))), (qs.getD k default).blocks⟩ : VFnT)).getD k default).blocks).length (cK (bl k) 2)))] (vA (Sv.ix (j := (k : Int)) (OS.sv Z ag (i := 1) rfl) (by first | omega | (dsimp only; omega)) (by first | omega | (dsimp only; omega))) (vA (ql 22 2 (VFnT.vw (e3 k) (by first | omega | (dsimp only; omega))) rfl rfl) trivial)) rfl fun _ => ?_
  have b4 := HS.snoc ag
  have b4 : HS _ _ _ [_, _, []] _ := b4
  refine bf (d3 (α := BlkT) (q := 2) (OS.nil : OS f9 (.slice none 0 0) ([] : List BlkT) []) b4 rfl rfl rfl (SR.sv f6 b4) rfl rfl rfl rfl rfl rfl rfl (by first | omega | (rw [jR (by omega)]; simp only [List.length_nil]; omega) | (simp only [List.length_append, List.length_cons, List.length_nil]; omega))) rfl rfl ?_
  rintro _ kI g6 ⟨h5, ik, rfl, c5, c9, _⟩
  have c9 : HS _ _ _ [_, _, g6] _ := c9
  have c5 : OS f9 (.slice h5 (((qs.set k (⟨(qs.getD k default).params, (qs.getD k default).regs + (1 + (ab more (9 : Int))), (qs.getD k default).blocks⟩ : VFnT)).getD k default).blocks).length ik) (((qs.set k (⟨(qs.getD k default).params, (qs.getD k default).regs + (1 + (ab more (9 : Int))), (qs.getD k default).blocks⟩ : VFnT)).getD k default).blocks) g6 := c5
  let hh : Value := (.agg ⟨[(.slice none 0 0), (iI 4), (iI 0), (iI 77), (iI 0)]⟩)
  refine wRo 1 8 [] 69 69 [] [(69, hh)] trivial rfl fun _ => ?_
  refine bf (cS (α := BlkT) (ps := [(0, hh)]) (cells := [(.slice none 0 0), (iI 4), (iI 0), (iI 77), (iI 0)]) ([(⟨([] : List VInT), 4, 0, 77, 0⟩ : BlkT)] : List BlkT) c9 rfl rfl rfl (by kernel_rfl) ⟨[(.slice none 0 0), (iI 4), (iI 0), (iI 77), (iI 0)], [], rfl, ⟨none, 0, rfl, by first | omega | (dsimp only; omega), by first | omega | (dsimp only; omega), by first | omega | (dsimp only; omega), by first | omega | (dsimp only; omega), SR.nil⟩, rfl⟩ rfl) rfl rfl ?_
  rintro _ kJ i2 ⟨kS, k5, rfl, hz, b5, _⟩
  have b5 : HS _ _ _ [_, _, _, i2] _ := b5
  refine bf (d3 (α := BlkT) (q := 2) c5 b5 rfl rfl rfl (OS.sv hz b5 (i := 3) rfl) rfl rfl rfl rfl rfl rfl rfl (by first | omega | (rw [jR (by omega)]; simp only [List.length_cons, List.length_nil]; omega) | (simp only [List.length_append, List.length_cons, List.length_nil]; omega))) rfl rfl ?_
  rintro _ kK i3 ⟨h6, iv, rfl, hA, b6, _⟩
  have b6 : HS _ _ _ [_, _, i3, _] _ := b6
  refine wRo 2 11 [] 72 73 [] [(73, (.pointer (some ⟨sB (.slice E qs.length I), sO (.slice E qs.length I) + k * Rp.sz VFnT + 2, none⟩)))] (vA (Sv.ix (j := (k : Int)) (OS.sv Z b6 (i := 1) rfl) (by first | omega | (dsimp only; omega)) (by first | omega | (dsimp only; omega))) trivial) rfl fun _ => ?_
  obtain ⟨kB, ez, dd, hC, kv⟩ := OS.frz hA b6 (i := 2) rfl
  have dd : HS _ _ _ [_, _, [], _] _ := dd
  replace Z := Z.mono ez
  refine aN (rs_st (α := VFnT) (j := k) (off := 2) (q := 1) (⟨((qs.set k (⟨(qs.getD k default).params, (qs.getD k default).regs + (1 + (ab more (9 : Int))), (qs.getD k default).blocks⟩ : VFnT)).getD k default).params, ((qs.set k (⟨(qs.getD k default).params, (qs.getD k default).regs + (1 + (ab more (9 : Int))), (qs.getD k default).blocks⟩ : VFnT)).getD k default).regs, (((qs.set k (⟨(qs.getD k default).params, (qs.getD k default).regs + (1 + (ab more (9 : Int))), (qs.getD k default).blocks⟩ : VFnT)).getD k default).blocks) ++ ([(⟨([] : List VInT), 4, 0, 77, 0⟩ : BlkT)] : List BlkT)⟩ : VFnT) Z dd rfl rfl rfl rfl rfl rfl rfl rfl (cN (x := default) (by first | omega | (dsimp only; omega))) rfl (by rintro cs ⟨g9, hg, rfl, e6, he, hf⟩; exact ⟨Nat.le_of_ble_eq_true rfl, ⟨h6, iv, rfl, e6, he, hC⟩⟩)) rfl ?_
  rintro _ kL g7 ⟨c6, dk, _⟩
  have dk : HS _ _ _ [_, g7, _, _] _ := dk
  have kg := OS.len' c6
  refine ao 2 rfl ?_
  refine wR 1 [] 48 49 [21] [(21, (iI ((k : Int) + 1)))] (vA (vi (n := (k : Int) + 1) (by first | omega | (dsimp only; omega))) trivial) rfl fun _ => ?_
  refine hG _ _ _ ?_ ⟨(qs.set k (⟨(qs.getD k default).params, (qs.getD k default).regs + (1 + (ab more (9 : Int))), (qs.getD k default).blocks⟩ : VFnT)).set k (⟨((qs.set k (⟨(qs.getD k default).params, (qs.getD k default).regs + (1 + (ab more (9 : Int))), (qs.getD k default).blocks⟩ : VFnT)).getD k default).params, ((qs.set k (⟨(qs.getD k default).params, (qs.getD k default).regs + (1 + (ab more (9 : Int))), (qs.getD k default).blocks⟩ : VFnT)).getD k default).regs, (((qs.set k (⟨(qs.getD k default).params, (qs.getD k default).regs + (1 + (ab more (9 : Int))), (qs.getD k default).blocks⟩ : VFnT)).getD k default).blocks) ++ ([(⟨([] : List VInT), 4, 0, 77, 0⟩ : BlkT)] : List BlkT)⟩ : VFnT), k + 1, E, I, g7, _, (fT (a0) ez), (HS.sub dk (List.sublist_append_left _ _)), (OS.norm c6), (agC rfl (agC rfl (agC rfl (agC rfl (agC rfl (agC rfl (agC rfl (agC (show Value.slice E qs.length I = Value.slice E ((qs.set k (⟨(qs.getD k default).params, (qs.getD k default).regs + (1 + (ab more (9 : Int))), (qs.getD k default).blocks⟩ : VFnT)).set k (⟨((qs.set k (⟨(qs.getD k default).params, (qs.getD k default).regs + (1 + (ab more (9 : Int))), (qs.getD k default).blocks⟩ : VFnT)).getD k default).params, ((qs.set k (⟨(qs.getD k default).params, (qs.getD k default).regs + (1 + (ab more (9 : Int))), (qs.getD k default).blocks⟩ : VFnT)).getD k default).regs, (((qs.set k (⟨(qs.getD k default).params, (qs.getD k default).regs + (1 + (ab more (9 : Int))), (qs.getD k default).blocks⟩ : VFnT)).getD k default).blocks) ++ ([(⟨([] : List VInT), 4, 0, 77, 0⟩ : BlkT)] : List BlkT)⟩ : VFnT)).length I by rw [OS.len' c6]) (agC rfl agN))))))))), rfl, (by exact set_twice hq (by omega) (by rw [jR (by omega)]; rfl)), (by first | assumption | omega | (simp at *; omega))⟩
  omega
 ·
  try simp only [BS] at ex
  have hqq := up_all hq (by omega)
  have hbq : bdP qs := by rw [hqq]; exact bd_up (bd_p h_)
  refine ah ?_
  refine wRo 6 0 [(5, .o (iI (ab fuel 12)))] 75 80 [] [(75, (.slice ap z.length aq)), (76, (.slice d2 [3, 2].length em)), (77, (iI (ab fi (2 : Int)))), (78, (.slice d1 (A.take (z.getD (ab fi (2 : Int)).toNat default).params.toNat).length ei)), (80, (iI (ab fuel 12)))] (vA (m6.fuel_c_q 38 fuel g1 (by first | omega | (dsimp only; omega))) trivial) rfl fun _ => ?_
  obtain ⟨kC, a3, b7, b1, kw⟩ := OS.frz c7 a6 (i := 0) rfl
  have b7 : HS _ _ _ [[], U] _ := b7
  replace hT := hT.mono a3
  replace O := O.mono a3
  replace ad := ad.mono a3
  refine aJ (ay rfl rfl rfl) rfl rfl (ir.vrun_c 38 z [3, 2] (ab fi (2 : Int)) (A.take (z.getD (ab fi (2 : Int)).toNat default).params.toNat) (ab fuel 12) (200) (HS.call b7) O ad (by first | omega | (dsimp only; omega)) b1 (by first | omega | (dsimp only; omega)) (by first | omega | (dsimp only; omega)) hT (by first | exact ⟨(by decide : ([3, 2] : List Int).length ≤ 1073741824), fun k j => Nat.le_trans (hbq k j) (by omega)⟩ | exact fun c hc k => Nat.le_trans (dr hbq c hc k) (by omega) | exact ⟨(by decide : ([3, 2] : List Int).length ≤ 1073741824), fun k j => Nat.le_trans (bd_p h_ k j) (by omega)⟩ | exact fun c hc k => Nat.le_trans (dr (bd_p h_) c hc k) (by omega) | omega) (by first | exact ⟨(by decide : ([3, 2] : List Int).length ≤ 1073741824), fun k j => Nat.le_trans (hbq k j) (by omega)⟩ | exact fun c hc k => Nat.le_trans (dr hbq c hc k) (by omega) | exact ⟨(by decide : ([3, 2] : List Int).length ≤ 1073741824), fun k j => Nat.le_trans (bd_p h_ k j) (by omega)⟩ | exact fun c hc k => Nat.le_trans (dr (bd_p h_) c hc k) (by omega) | omega) (by first | exact ⟨(by decide : ([3, 2] : List Int).length ≤ 1073741824), fun k j => Nat.le_trans (hbq k j) (by omega)⟩ | exact fun c hc k => Nat.le_trans (dr hbq c hc k) (by omega) | exact ⟨(by decide : ([3, 2] : List Int).length ≤ 1073741824), fun k j => Nat.le_trans (bd_p h_ k j) (by omega)⟩ | exact fun c hc k => Nat.le_trans (dr (bd_p h_) c hc k) (by omega) | omega)) ?_
  rintro _ kM ⟨lc, ch, cl, k7, kD, a4, a8, rfl, hN, hP, hQ, a1, rfl, rfl, kY⟩
  replace a8 := HS.back b7 rfl a8
  have a8 : HS _ _ _ [_, _] _ := a8
  replace J := (J.mono a3).mono a4
  let hj : Value := (.agg ⟨[(iI ((be (aQ z [3, 2] (ab fi (2 : Int)) (A.take (z.getD (ab fi (2 : Int)).toNat default).params.toNat) (ab fuel 12) (200 : Int))).kind)), (iI ((be (aQ z [3, 2] (ab fi (2 : Int)) (A.take (z.getD (ab fi (2 : Int)).toNat default).params.toNat) (ab fuel 12) (200 : Int))).code)), (.slice ch ((be (aQ z [3, 2] (ab fi (2 : Int)) (A.take (z.getD (ab fi (2 : Int)).toNat default).params.toNat) (ab fuel 12) (200 : Int))).out).length cl), (iI ((be (aQ z [3, 2] (ab fi (2 : Int)) (A.take (z.getD (ab fi (2 : Int)).toNat default).params.toNat) (ab fuel 12) (200 : Int))).val))]⟩)
  refine wRo 3 7 [] 82 83 [74] [(82, hj), (83, (.bool ((aQ z [3, 2] (ab fi (2 : Int)) (A.take (z.getD (ab fi (2 : Int)).toNat default).params.toNat) (ab fuel 12) (200 : Int)).isSome)))] trivial rfl fun _ => ?_
  refine bf (bY a8 rfl) rfl rfl ?_
  rintro _ kN _ ⟨g2, rfl, dl, _⟩
  have dl : HS _ _ _ [_, _, [(g2, .cells [(iI 0), (iI 0), (.slice none 0 0), (iI 0)] none false)]] _ := dl
  refine aN (aC (q := 2) dl rfl rfl rfl rfl rfl rfl rfl rfl rfl) rfl ?_
  rintro _ h1 _ ⟨dn, _⟩
  let hn : Fp := [(g2, .cells [(iI ((be (aQ z [3, 2] (ab fi (2 : Int)) (A.take (z.getD (ab fi (2 : Int)).toNat default).params.toNat) (ab fuel 12) (200 : Int))).kind)), (iI ((be (aQ z [3, 2] (ab fi (2 : Int)) (A.take (z.getD (ab fi (2 : Int)).toNat default).params.toNat) (ab fuel 12) (200 : Int))).code)), (.slice ch ((be (aQ z [3, 2] (ab fi (2 : Int)) (A.take (z.getD (ab fi (2 : Int)).toNat default).params.toNat) (ab fuel 12) (200 : Int))).out).length cl), (iI ((be (aQ z [3, 2] (ab fi (2 : Int)) (A.take (z.getD (ab fi (2 : Int)).toNat default).params.toNat) (ab fuel 12) (200 : Int))).val))] none false)]
  have dn : HS _ _ _ [_, _, hn] _ := dn
  refine wa (.bool ((aQ z [3, 2] (ab fi (2 : Int)) (A.take (z.getD (ab fi (2 : Int)).toNat default).params.toNat) (ab fuel 12) (200 : Int)).isSome)) rfl rfl rfl ?_
  refine ao 2 rfl ?_
  refine ah ?_
  refine wRo 6 0 [(5, .o (iI (ab fuel 12)))] 85 90 [] [(85, (.slice E qs.length I)), (86, (.slice d2 [3, 2].length em)), (87, (iI (ab fi (2 : Int)))), (88, (.slice d1 (A.take (z.getD (ab fi (2 : Int)).toNat default).params.toNat).length ei)), (90, (iI (ab fuel 12)))] (vA (m6.fuel_c_q 38 fuel h1 (by first | omega | (dsimp only; omega))) trivial) rfl fun _ => ?_
  obtain ⟨kE, a5, cd, hD, kx⟩ := OS.frz J dn (i := 1) rfl
  have cd : HS _ _ _ [_, [], _] _ := cd
  replace hT := (hT.mono a4).mono a5
  replace b1 := (b1.mono a4).mono a5
  replace ad := (ad.mono a4).mono a5
  refine aJ (ay rfl rfl rfl) rfl rfl (ir.vrun_c 38 qs [3, 2] (ab fi (2 : Int)) (A.take (z.getD (ab fi (2 : Int)).toNat default).params.toNat) (ab fuel 12) (200) (HS.call cd) hD ad (by first | omega | (dsimp only; omega)) b1 (by first | omega | (dsimp only; omega)) (by first | omega | (dsimp only; omega)) hT (by first | exact ⟨(by decide : ([3, 2] : List Int).length ≤ 1073741824), fun k j => Nat.le_trans (hbq k j) (by omega)⟩ | exact fun c hc k => Nat.le_trans (dr hbq c hc k) (by omega) | exact ⟨(by decide : ([3, 2] : List Int).length ≤ 1073741824), fun k j => Nat.le_trans (bd_p h_ k j) (by omega)⟩ | exact fun c hc k => Nat.le_trans (dr (bd_p h_) c hc k) (by omega) | omega) (by first | exact ⟨(by decide : ([3, 2] : List Int).length ≤ 1073741824), fun k j => Nat.le_trans (hbq k j) (by omega)⟩ | exact fun c hc k => Nat.le_trans (dr hbq c hc k) (by omega) | exact ⟨(by decide : ([3, 2] : List Int).length ≤ 1073741824), fun k j => Nat.le_trans (bd_p h_ k j) (by omega)⟩ | exact fun c hc k => Nat.le_trans (dr (bd_p h_) c hc k) (by omega) | omega) (by first | exact ⟨(by decide : ([3, 2] : List Int).length ≤ 1073741824), fun k j => Nat.le_trans (hbq k j) (by omega)⟩ | exact fun c hc k => Nat.le_trans (dr hbq c hc k) (by omega) | exact ⟨(by decide : ([3, 2] : List Int).length ≤ 1073741824), fun k j => Nat.le_trans (bd_p h_ k j) (by omega)⟩ | exact fun c hc k => Nat.le_trans (dr (bd_p h_) c hc k) (by omega) | omega)) ?_
  rintro _ kO ⟨ld, ci, co, k8, hX, c0, bb, rfl, hS, hV, hW, es, rfl, rfl, kZ⟩
  replace bb := HS.back cd rfl bb
  have bb : HS _ _ _ [_, _, _] _ := bb
  replace hT := hT.mono c0
  replace a1 := (a1.mono a5).mono c0
  let ho : Value := (.agg ⟨[(iI ((be (aQ qs [3, 2] (ab fi (2 : Int)) (A.take (z.getD (ab fi (2 : Int)).toNat default).params.toNat) (ab fuel 12) (200 : Int))).kind)), (iI ((be (aQ qs [3, 2] (ab fi (2 : Int)) (A.take (z.getD (ab fi (2 : Int)).toNat default).params.toNat) (ab fuel 12) (200 : Int))).code)), (.slice ci ((be (aQ qs [3, 2] (ab fi (2 : Int)) (A.take (z.getD (ab fi (2 : Int)).toNat default).params.toNat) (ab fuel 12) (200 : Int))).out).length co), (iI ((be (aQ qs [3, 2] (ab fi (2 : Int)) (A.take (z.getD (ab fi (2 : Int)).toNat default).params.toNat) (ab fuel 12) (200 : Int))).val))]⟩)
  refine wRo 3 7 [] 92 93 [84] [(92, ho), (93, (.bool ((aQ qs [3, 2] (ab fi (2 : Int)) (A.take (z.getD (ab fi (2 : Int)).toNat default).params.toNat) (ab fuel 12) (200 : Int)).isSome)))] trivial rfl fun _ => ?_
  refine bf (bY bb rfl) rfl rfl ?_
  rintro _ kP _ ⟨g3, rfl, ds, _⟩
  have ds : HS _ _ _ [_, _, _, [(g3, .cells [(iI 0), (iI 0), (.slice none 0 0), (iI 0)] none false)]] _ := ds
  refine aN (aC (q := 3) ds rfl rfl rfl rfl rfl rfl rfl rfl rfl) rfl ?_
  rintro _ kQ _ ⟨ar, _⟩
  let hp : Fp := [(g3, .cells [(iI ((be (aQ qs [3, 2] (ab fi (2 : Int)) (A.take (z.getD (ab fi (2 : Int)).toNat default).params.toNat) (ab fuel 12) (200 : Int))).kind)), (iI ((be (aQ qs [3, 2] (ab fi (2 : Int)) (A.take (z.getD (ab fi (2 : Int)).toNat default).params.toNat) (ab fuel 12) (200 : Int))).code)), (.slice ci ((be (aQ qs [3, 2] (ab fi (2 : Int)) (A.take (z.getD (ab fi (2 : Int)).toNat default).params.toNat) (ab fuel 12) (200 : Int))).out).length co), (iI ((be (aQ qs [3, 2] (ab fi (2 : Int)) (A.take (z.getD (ab fi (2 : Int)).toNat default).params.toNat) (ab fuel 12) (200 : Int))).val))] none false)]
  have ar : HS _ _ _ [_, _, _, hp] _ := ar
  refine wa (.bool ((aQ qs [3, 2] (ab fi (2 : Int)) (A.take (z.getD (ab fi (2 : Int)).toNat default).params.toNat) (ab fuel 12) (200 : Int)).isSome)) rfl rfl rfl ?_
  refine ao 2 rfl ?_
  refine wk_rcut 16 104 [] [(16, (.bool (((aQ z [3, 2] (ab fi (2 : Int)) (A.take (z.getD (ab fi (2 : Int)).toNat default).params.toNat) (ab fuel 12) (200 : Int)).isSome == (aQ qs [3, 2] (ab fi (2 : Int)) (A.take (z.getD (ab fi (2 : Int)).toNat default).params.toNat) (ab fuel 12) (200 : Int)).isSome) && decide ((⟨(be (aQ z [3, 2] (ab fi (2 : Int)) (A.take (z.getD (ab fi (2 : Int)).toNat default).params.toNat) (ab fuel 12) (200 : Int))).kind, (be (aQ z [3, 2] (ab fi (2 : Int)) (A.take (z.getD (ab fi (2 : Int)).toNat default).params.toNat) (ab fuel 12) (200 : Int))).code, (be (aQ z [3, 2] (ab fi (2 : Int)) (A.take (z.getD (ab fi (2 : Int)).toNat default).params.toNat) (ab fuel 12) (200 : Int))).out, (be (aQ z [3, 2] (ab fi (2 : Int)) (A.take (z.getD (ab fi (2 : Int)).toNat default).params.toNat) (ab fuel 12) (200 : Int))).val⟩ : OutT) = (⟨(be (aQ qs [3, 2] (ab fi (2 : Int)) (A.take (z.getD (ab fi (2 : Int)).toNat default).params.toNat) (ab fuel 12) (200 : Int))).kind, (be (aQ qs [3, 2] (ab fi (2 : Int)) (A.take (z.getD (ab fi (2 : Int)).toNat default).params.toNat) (ab fuel 12) (200 : Int))).code, (be (aQ qs [3, 2] (ab fi (2 : Int)) (A.take (z.getD (ab fi (2 : Int)).toNat default).params.toNat) (ab fuel 12) (200 : Int))).out, (be (aQ qs [3, 2] (ab fi (2 : Int)) (A.take (z.getD (ab fi (2 : Int)).toNat default).params.toNat) (ab fuel 12) (200 : Int))).val⟩ : OutT)))))] (fun H' => ∃ F', Fz.le hX F' ∧ HS (Base.of H []) F' H' [[], [], hn, hp] R) ?_ ?_
  ·
   refine ah ?_
   refine wm (.bool ((aQ z [3, 2] (ab fi (2 : Int)) (A.take (z.getD (ab fi (2 : Int)).toNat default).params.toNat) (ab fuel 12) (200 : Int)).isSome)) rfl rfl rfl ?_
   refine wm (.bool ((aQ qs [3, 2] (ab fi (2 : Int)) (A.take (z.getD (ab fi (2 : Int)).toNat default).params.toNat) (ab fuel 12) (200 : Int)).isSome)) rfl rfl rfl ?_
   refine ep (v := (.bool ((aQ z [3, 2] (ab fi (2 : Int)) (A.take (z.getD (ab fi (2 : Int)).toNat default).params.toNat) (ab fuel 12) (200 : Int)).isSome == (aQ qs [3, 2] (ab fi (2 : Int)) (A.take (z.getD (ab fi (2 : Int)).toNat default).params.toNat) (ab fuel 12) (200 : Int)).isSome))) (ap_boolEq rfl rfl (fun a b => by cases a <;> cases b <;> kernel_rfl)) rfl rfl ?_
   refine wm (.bool ((aQ z [3, 2] (ab fi (2 : Int)) (A.take (z.getD (ab fi (2 : Int)).toNat default).params.toNat) (ab fuel 12) (200 : Int)).isSome == (aQ qs [3, 2] (ab fi (2 : Int)) (A.take (z.getD (ab fi (2 : Int)).toNat default).params.toNat) (ab fuel 12) (200 : Int)).isSome)) rfl rfl rfl ?_
   refine wo_gsT (v := ((aQ z [3, 2] (ab fi (2 : Int)) (A.take (z.getD (ab fi (2 : Int)).toNat default).params.toNat) (ab fuel 12) (200 : Int)).isSome == (aQ qs [3, 2] (ab fi (2 : Int)) (A.take (z.getD (ab fi (2 : Int)).toNat default).params.toNat) (ab fuel 12) (200 : Int)).isSome)) rfl rfl (fun V => ?_) (fun V => ?_)
   ·
    have dt := V
    try simp only [BS] at dt
    refine ep (v := hj) (iQ (i := 0) rfl rfl rfl (HS.hc ar (i := 2) rfl) rfl rfl rfl) rfl rfl ?_
    refine wo_gt rfl V ?_
    refine ep (v := ho) (iQ (i := 0) rfl rfl rfl (HS.hc ar (i := 3) rfl) rfl rfl rfl) rfl rfl ?_
    refine wo_gt rfl V ?_
    refine aJ (ay rfl rfl rfl) rfl rfl (it.same_c 38 (⟨(be (aQ z [3, 2] (ab fi (2 : Int)) (A.take (z.getD (ab fi (2 : Int)).toNat default).params.toNat) (ab fuel 12) (200 : Int))).kind, (be (aQ z [3, 2] (ab fi (2 : Int)) (A.take (z.getD (ab fi (2 : Int)).toNat default).params.toNat) (ab fuel 12) (200 : Int))).code, (be (aQ z [3, 2] (ab fi (2 : Int)) (A.take (z.getD (ab fi (2 : Int)).toNat default).params.toNat) (ab fuel 12) (200 : Int))).out, (be (aQ z [3, 2] (ab fi (2 : Int)) (A.take (z.getD (ab fi (2 : Int)).toNat default).params.toNat) (ab fuel 12) (200 : Int))).val⟩ : OutT) (⟨(be (aQ qs [3, 2] (ab fi (2 : Int)) (A.take (z.getD (ab fi (2 : Int)).toNat default).params.toNat) (ab fuel 12) (200 : Int))).kind, (be (aQ qs [3, 2] (ab fi (2 : Int)) (A.take (z.getD (ab fi (2 : Int)).toNat default).params.toNat) (ab fuel 12) (200 : Int))).code, (be (aQ qs [3, 2] (ab fi (2 : Int)) (A.take (z.getD (ab fi (2 : Int)).toNat default).params.toNat) (ab fuel 12) (200 : Int))).out, (be (aQ qs [3, 2] (ab fi (2 : Int)) (A.take (z.getD (ab fi (2 : Int)).toNat default).params.toNat) (ab fuel 12) (200 : Int))).val⟩ : OutT) (HS.call ar) (by first | omega | (dsimp only; omega)) (by first | omega | (dsimp only; omega)) a1 (by first | omega | (dsimp only; omega)) (by first | omega | (dsimp only; omega)) (by first | omega | (dsimp only; omega)) es (by first | omega | (dsimp only; omega)) hT (by first | omega | (dsimp only; omega))) ?_
    rintro _ h2 ⟨la, kG, c3, av, rfl, rfl⟩
    replace av := HS.back ar rfl av
    have av : HS _ _ _ [_, _, _, _] _ := av
    replace hT := hT.mono c3
    refine ep (v := (.bool (decide ((⟨(be (aQ z [3, 2] (ab fi (2 : Int)) (A.take (z.getD (ab fi (2 : Int)).toNat default).params.toNat) (ab fuel 12) (200 : Int))).kind, (be (aQ z [3, 2] (ab fi (2 : Int)) (A.take (z.getD (ab fi (2 : Int)).toNat default).params.toNat) (ab fuel 12) (200 : Int))).code, (be (aQ z [3, 2] (ab fi (2 : Int)) (A.take (z.getD (ab fi (2 : Int)).toNat default).params.toNat) (ab fuel 12) (200 : Int))).out, (be (aQ z [3, 2] (ab fi (2 : Int)) (A.take (z.getD (ab fi (2 : Int)).toNat default).params.toNat) (ab fuel 12) (200 : Int))).val⟩ : OutT) = (⟨(be (aQ qs [3, 2] (ab fi (2 : Int)) (A.take (z.getD (ab fi (2 : Int)).toNat default).params.toNat) (ab fuel 12) (200 : Int))).kind, (be (aQ qs [3, 2] (ab fi (2 : Int)) (A.take (z.getD (ab fi (2 : Int)).toNat default).params.toNat) (ab fuel 12) (200 : Int))).code, (be (aQ qs [3, 2] (ab fi (2 : Int)) (A.take (z.getD (ab fi (2 : Int)).toNat default).params.toNat) (ab fuel 12) (200 : Int))).out, (be (aQ qs [3, 2] (ab fi (2 : Int)) (A.take (z.getD (ab fi (2 : Int)).toNat default).params.toNat) (ab fuel 12) (200 : Int))).val⟩ : OutT))))) (ap_pickT rfl V rfl) rfl rfl ?_
    refine wm (.bool (decide ((⟨(be (aQ z [3, 2] (ab fi (2 : Int)) (A.take (z.getD (ab fi (2 : Int)).toNat default).params.toNat) (ab fuel 12) (200 : Int))).kind, (be (aQ z [3, 2] (ab fi (2 : Int)) (A.take (z.getD (ab fi (2 : Int)).toNat default).params.toNat) (ab fuel 12) (200 : Int))).code, (be (aQ z [3, 2] (ab fi (2 : Int)) (A.take (z.getD (ab fi (2 : Int)).toNat default).params.toNat) (ab fuel 12) (200 : Int))).out, (be (aQ z [3, 2] (ab fi (2 : Int)) (A.take (z.getD (ab fi (2 : Int)).toNat default).params.toNat) (ab fuel 12) (200 : Int))).val⟩ : OutT) = (⟨(be (aQ qs [3, 2] (ab fi (2 : Int)) (A.take (z.getD (ab fi (2 : Int)).toNat default).params.toNat) (ab fuel 12) (200 : Int))).kind, (be (aQ qs [3, 2] (ab fi (2 : Int)) (A.take (z.getD (ab fi (2 : Int)).toNat default).params.toNat) (ab fuel 12) (200 : Int))).code, (be (aQ qs [3, 2] (ab fi (2 : Int)) (A.take (z.getD (ab fi (2 : Int)).toNat default).params.toNat) (ab fuel 12) (200 : Int))).out, (be (aQ qs [3, 2] (ab fi (2 : Int)) (A.take (z.getD (ab fi (2 : Int)).toNat default).params.toNat) (ab fuel 12) (200 : Int))).val⟩ : OutT)))) rfl rfl rfl ?_
    refine wo_gsT (v := (decide ((⟨(be (aQ z [3, 2] (ab fi (2 : Int)) (A.take (z.getD (ab fi (2 : Int)).toNat default).params.toNat) (ab fuel 12) (200 : Int))).kind, (be (aQ z [3, 2] (ab fi (2 : Int)) (A.take (z.getD (ab fi (2 : Int)).toNat default).params.toNat) (ab fuel 12) (200 : Int))).code, (be (aQ z [3, 2] (ab fi (2 : Int)) (A.take (z.getD (ab fi (2 : Int)).toNat default).params.toNat) (ab fuel 12) (200 : Int))).out, (be (aQ z [3, 2] (ab fi (2 : Int)) (A.take (z.getD (ab fi (2 : Int)).toNat default).params.toNat) (ab fuel 12) (200 : Int))).val⟩ : OutT) = (⟨(be (aQ qs [3, 2] (ab fi (2 : Int)) (A.take (z.getD (ab fi (2 : Int)).toNat default).params.toNat) (ab fuel 12) (200 : Int))).kind, (be (aQ qs [3, 2] (ab fi (2 : Int)) (A.take (z.getD (ab fi (2 : Int)).toNat default).params.toNat) (ab fuel 12) (200 : Int))).code, (be (aQ qs [3, 2] (ab fi (2 : Int)) (A.take (z.getD (ab fi (2 : Int)).toNat default).params.toNat) (ab fuel 12) (200 : Int))).out, (be (aQ qs [3, 2] (ab fi (2 : Int)) (A.take (z.getD (ab fi (2 : Int)).toNat default).params.toNat) (ab fuel 12) (200 : Int))).val⟩ : OutT)))) rfl rfl (fun a2 => ?_) (fun a2 => ?_)
    ·
     have dv := a2
     try simp only [BS] at dv
     refine aJ (ay rfl rfl rfl) rfl rfl (ex_c 38 (HS.call av) hT) ?_
     rintro _ h2 ⟨lb, rfl, rfl, rfl⟩
     refine ep (v := (.bool true)) (ap_pickT rfl a2 rfl) rfl rfl ?_
     refine wa (.bool true) rfl rfl rfl ?_
     refine wo_nil ?_
     exact aA ⟨rfl, ⟨_, (fT fR c3), HS.sub av (List.Sublist.refl _)⟩, (Lu rfl (Lu rfl (Lu rfl (Lu rfl (Lu rfl (Lu rfl (Lu rfl (Lu rfl (Lu rfl (Lu rfl (Lu rfl (Lu rfl Lr)))))))))))), (agC (congrArg Value.bool (show true = (((aQ z [3, 2] (ab fi (2 : Int)) (A.take (z.getD (ab fi (2 : Int)).toNat default).params.toNat) (ab fuel 12) (200 : Int)).isSome == (aQ qs [3, 2] (ab fi (2 : Int)) (A.take (z.getD (ab fi (2 : Int)).toNat default).params.toNat) (ab fuel 12) (200 : Int)).isSome) && decide ((⟨(be (aQ z [3, 2] (ab fi (2 : Int)) (A.take (z.getD (ab fi (2 : Int)).toNat default).params.toNat) (ab fuel 12) (200 : Int))).kind, (be (aQ z [3, 2] (ab fi (2 : Int)) (A.take (z.getD (ab fi (2 : Int)).toNat default).params.toNat) (ab fuel 12) (200 : Int))).code, (be (aQ z [3, 2] (ab fi (2 : Int)) (A.take (z.getD (ab fi (2 : Int)).toNat default).params.toNat) (ab fuel 12) (200 : Int))).out, (be (aQ z [3, 2] (ab fi (2 : Int)) (A.take (z.getD (ab fi (2 : Int)).toNat default).params.toNat) (ab fuel 12) (200 : Int))).val⟩ : OutT) = (⟨(be (aQ qs [3, 2] (ab fi (2 : Int)) (A.take (z.getD (ab fi (2 : Int)).toNat default).params.toNat) (ab fuel 12) (200 : Int))).kind, (be (aQ qs [3, 2] (ab fi (2 : Int)) (A.take (z.getD (ab fi (2 : Int)).toNat default).params.toNat) (ab fuel 12) (200 : Int))).code, (be (aQ qs [3, 2] (ab fi (2 : Int)) (A.take (z.getD (ab fi (2 : Int)).toNat default).params.toNat) (ab fuel 12) (200 : Int))).out, (be (aQ qs [3, 2] (ab fi (2 : Int)) (A.take (z.getD (ab fi (2 : Int)).toNat default).params.toNat) (ab fuel 12) (200 : Int))).val⟩ : OutT))) by first | rfl | simp only [↓V, ↓a2, BT] | grind)) agN)⟩
    ·
     have dv := a2
     try simp only [BS] at dv
     refine ep (v := (.bool false)) (j3 rfl a2 rfl) rfl rfl ?_
     refine wa (.bool false) rfl rfl rfl ?_
     refine wo_nil ?_
     exact aA ⟨rfl, ⟨_, (fT fR c3), HS.sub av (List.Sublist.refl _)⟩, (Lu rfl (Lu rfl (Lu rfl (Lu rfl (Lu rfl (Lu rfl (Lu rfl (Lu rfl (Lu rfl (Lu rfl (Lu rfl (Lu rfl Lr)))))))))))), (agC (congrArg Value.bool (show false = (((aQ z [3, 2] (ab fi (2 : Int)) (A.take (z.getD (ab fi (2 : Int)).toNat default).params.toNat) (ab fuel 12) (200 : Int)).isSome == (aQ qs [3, 2] (ab fi (2 : Int)) (A.take (z.getD (ab fi (2 : Int)).toNat default).params.toNat) (ab fuel 12) (200 : Int)).isSome) && decide ((⟨(be (aQ z [3, 2] (ab fi (2 : Int)) (A.take (z.getD (ab fi (2 : Int)).toNat default).params.toNat) (ab fuel 12) (200 : Int))).kind, (be (aQ z [3, 2] (ab fi (2 : Int)) (A.take (z.getD (ab fi (2 : Int)).toNat default).params.toNat) (ab fuel 12) (200 : Int))).code, (be (aQ z [3, 2] (ab fi (2 : Int)) (A.take (z.getD (ab fi (2 : Int)).toNat default).params.toNat) (ab fuel 12) (200 : Int))).out, (be (aQ z [3, 2] (ab fi (2 : Int)) (A.take (z.getD (ab fi (2 : Int)).toNat default).params.toNat) (ab fuel 12) (200 : Int))).val⟩ : OutT) = (⟨(be (aQ qs [3, 2] (ab fi (2 : Int)) (A.take (z.getD (ab fi (2 : Int)).toNat default).params.toNat) (ab fuel 12) (200 : Int))).kind, (be (aQ qs [3, 2] (ab fi (2 : Int)) (A.take (z.getD (ab fi (2 : Int)).toNat default).params.toNat) (ab fuel 12) (200 : Int))).code, (be (aQ qs [3, 2] (ab fi (2 : Int)) (A.take (z.getD (ab fi (2 : Int)).toNat default).params.toNat) (ab fuel 12) (200 : Int))).out, (be (aQ qs [3, 2] (ab fi (2 : Int)) (A.take (z.getD (ab fi (2 : Int)).toNat default).params.toNat) (ab fuel 12) (200 : Int))).val⟩ : OutT))) by first | rfl | simp only [↓V, ↓a2, BT] | grind)) agN)⟩
   ·
    have dt := V
    try simp only [BS] at dt
    refine wo_gf1 rfl V rfl ?_
    refine wo_gf1 rfl V rfl ?_
    refine ep (v := (.bool false)) (j3 rfl V rfl) rfl rfl ?_
    refine wm (.bool false) rfl rfl rfl ?_
    refine wo_gf1 rfl rfl rfl ?_
    refine ep (v := (.bool false)) (j3 rfl rfl rfl) rfl rfl ?_
    refine wa (.bool false) rfl rfl rfl ?_
    refine wo_nil ?_
    exact aA ⟨rfl, ⟨_, fR, HS.sub ar (List.Sublist.refl _)⟩, (Lu rfl (Lu rfl (Lu rfl (Lu rfl (Lu rfl (Lu rfl (Lu rfl (Lu rfl (Lu rfl (Lu rfl (Lu rfl (Lu rfl Lr)))))))))))), (agC (congrArg Value.bool (show false = (((aQ z [3, 2] (ab fi (2 : Int)) (A.take (z.getD (ab fi (2 : Int)).toNat default).params.toNat) (ab fuel 12) (200 : Int)).isSome == (aQ qs [3, 2] (ab fi (2 : Int)) (A.take (z.getD (ab fi (2 : Int)).toNat default).params.toNat) (ab fuel 12) (200 : Int)).isSome) && decide ((⟨(be (aQ z [3, 2] (ab fi (2 : Int)) (A.take (z.getD (ab fi (2 : Int)).toNat default).params.toNat) (ab fuel 12) (200 : Int))).kind, (be (aQ z [3, 2] (ab fi (2 : Int)) (A.take (z.getD (ab fi (2 : Int)).toNat default).params.toNat) (ab fuel 12) (200 : Int))).code, (be (aQ z [3, 2] (ab fi (2 : Int)) (A.take (z.getD (ab fi (2 : Int)).toNat default).params.toNat) (ab fuel 12) (200 : Int))).out, (be (aQ z [3, 2] (ab fi (2 : Int)) (A.take (z.getD (ab fi (2 : Int)).toNat default).params.toNat) (ab fuel 12) (200 : Int))).val⟩ : OutT) = (⟨(be (aQ qs [3, 2] (ab fi (2 : Int)) (A.take (z.getD (ab fi (2 : Int)).toNat default).params.toNat) (ab fuel 12) (200 : Int))).kind, (be (aQ qs [3, 2] (ab fi (2 : Int)) (A.take (z.getD (ab fi (2 : Int)).toNat default).params.toNat) (ab fuel 12) (200 : Int))).code, (be (aQ qs [3, 2] (ab fi (2 : Int)) (A.take (z.getD (ab fi (2 : Int)).toNat default).params.toNat) (ab fuel 12) (200 : Int))).out, (be (aQ qs [3, 2] (ab fi (2 : Int)) (A.take (z.getD (ab fi (2 : Int)).toNat default).params.toNat) (ab fuel 12) (200 : Int))).val⟩ : OutT))) by first | rfl | simp only [↓V, BT] | grind)) agN)⟩
  ·
   rintro kX kR ⟨kF, ht, hF⟩
   refine aw 1 rfl ?_
   refine am ⟨.inr rfl, _, rfl, (((aQ z [3, 2] (ab fi (2 : Int)) (A.take (z.getD (ab fi (2 : Int)).toNat default).params.toNat) (ab fuel 12) (200 : Int)).isSome == (aQ qs [3, 2] (ab fi (2 : Int)) (A.take (z.getD (ab fi (2 : Int)).toNat default).params.toNat) (ab fuel 12) (200 : Int)).isSome) && decide ((⟨(be (aQ z [3, 2] (ab fi (2 : Int)) (A.take (z.getD (ab fi (2 : Int)).toNat default).params.toNat) (ab fuel 12) (200 : Int))).kind, (be (aQ z [3, 2] (ab fi (2 : Int)) (A.take (z.getD (ab fi (2 : Int)).toNat default).params.toNat) (ab fuel 12) (200 : Int))).code, (be (aQ z [3, 2] (ab fi (2 : Int)) (A.take (z.getD (ab fi (2 : Int)).toNat default).params.toNat) (ab fuel 12) (200 : Int))).out, (be (aQ z [3, 2] (ab fi (2 : Int)) (A.take (z.getD (ab fi (2 : Int)).toNat default).params.toNat) (ab fuel 12) (200 : Int))).val⟩ : OutT) = (⟨(be (aQ qs [3, 2] (ab fi (2 : Int)) (A.take (z.getD (ab fi (2 : Int)).toNat default).params.toNat) (ab fuel 12) (200 : Int))).kind, (be (aQ qs [3, 2] (ab fi (2 : Int)) (A.take (z.getD (ab fi (2 : Int)).toNat default).params.toNat) (ab fuel 12) (200 : Int))).code, (be (aQ qs [3, 2] (ab fi (2 : Int)) (A.take (z.getD (ab fi (2 : Int)).toNat default).params.toNat) (ab fuel 12) (200 : Int))).out, (be (aQ qs [3, 2] (ab fi (2 : Int)) (A.take (z.getD (ab fi (2 : Int)).toNat default).params.toNat) (ab fuel 12) (200 : Int))).val⟩ : OutT))), _, (fT (fT (fT (fT (fT (fT (fT (g4) eb) a0) a3) a4) a5) c0) ht), (HS.forget hF), rfl, (by exact un_fin (by rw [hqq]; exact up_run ⟨by omega, by omega⟩ (g_lim h_) (vp_good h_) ⟨by omega, by omega⟩))⟩
end Go.Proofs.YtlabedbmgmfbaaaDoor.lu
