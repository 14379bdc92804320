/-
  The law on which programs of virtual code are valid, by a symbolic run. No condition but that the table lies as laid.
-/
import Derived.Test.YtlabedbmgmfbaaaDoorM8
import Derived.Test.YtlabedbmgmfbaaaDoorM9
noncomputable section
namespace Go.Proofs.YtlabedbmgmfbaaaDoor.lp
open Go.R
set_option maxRecDepth 10000
set_option linter.unusedVariables false
theorem ql {H : Heap} {b o : Nat} {cs : List Value} {w : Value} (t : TypeId) (i : Nat) (hc : HC H.get b o cs) (ha : aggOf Tryd.prog t = some false) (hv : cs[i]? = some w) : LDv Tryd.prog H t (.pointer (some ⟨b, o + i, none⟩)) w := ld1 hc ha hv
theorem qn {H : Heap} {b o : Nat} {cs l : List Value} (t : TypeId) (i n : Nat) (hc : HC H.get b o cs) (ha : aggOf Tryd.prog t = some true) (hs : szOf Tryd.prog t = some n) (hn : Nat.ble (i + n) cs.length = true) (hl : takeL (dropL cs i) n = l) : LDv Tryd.prog H t (.pointer (some ⟨b, o + i, none⟩)) (.agg ⟨l⟩) := ldN hc ha hs hn hl
open m1 m2 m3 m4 m5 m6 m7 m8 m9

theorem ex_c (_ : FuncId) {F : Fz} {H : Heap} {R : List Fp} (hs : HS (.of H []) F H [] R) (hT : TB 37 tabC F) : C Tryd.prog 1 (KT 60 38 37 tabC) 38 [] H fun v H' => ∃ (r : Bool), H' = H ∧ v = .bool r ∧ r = true :=
  ⟨0, .bool true, H, by unfold call callK; rw [(hT.heap hs).known (by decide)], true, rfl, rfl, rfl⟩
theorem ex_c_q (e : FuncId) {F : Fz} {H : Heap} {R : List Fp} (hs : HS (.of H []) F H [] R) (hT : TB 37 tabC F) : C Tryd.prog 1 (KT 60 38 37 tabC) 38 [] H fun v H' => v = .bool true ∧ H' = H := cq (ex_c e hs hT) (by rintro _ _ ⟨_, rfl, rfl, rfl⟩; exact ⟨rfl, rfl⟩)

def bdP (l : List VFnT) : Prop := ∀ k j, ((l.getD k default).blocks.getD j default).ins.length ≤ 1000
theorem bdP_of {l : List VFnT} (h : ∀ x ∈ l, ∀ j, (x.blocks.getD j default).ins.length ≤ 1000) : bdP l := fun k j => by
  rw [List.getD_eq_getElem?_getD (l := l)]
  rcases hk : l[k]? with _ | x
  · exact Nat.zero_le _
  · exact h x (List.mem_of_getElem? hk) j
theorem bdP_mem {l : List VFnT} (h : bdP l) : ∀ x ∈ l, ∀ j, (x.blocks.getD j default).ins.length ≤ 1000 := fun x hx j => by
  obtain ⟨k, hk, rfl⟩ := List.mem_iff_getElem.1 hx
  have := h k j
  rwa [List.getD_eq_getElem?_getD (l := l), List.getElem?_eq_getElem hk] at this
theorem bdP_at {l : List (List VFnT)} (h : ∀ x ∈ l, bdP x) (i : Nat) : bdP (l.getD i default) := by
  rw [List.getD_eq_getElem?_getD]
  rcases hk : l[i]? with _ | x
  · exact fun k j => Nat.zero_le _
  · exact h x (List.mem_of_getElem? hk)
theorem bd_p {p : List VFnT} (h : p.length = 2 ∧ vfG (p.getD 0 default) 2 ∧ vfG (p.getD 1 default) 1) : bdP p := fun k j => by
  rcases Nat.lt_or_ge k 2 with hk | hk
  · have : k = 0 ∨ k = 1 := by omega
    rcases this with rfl | rfl
    · exact Nat.le_trans (h.2.1.ins j) (by omega)
    · exact Nat.le_trans (h.2.2.ins j) (by omega)
  · have h1 := h.1
    rw [getD_out (l := p) (by omega)]; exact Nat.zero_le _
theorem g_at {p : List VFnT} (h : p.length = 2 ∧ vfG (p.getD 0 default) 2 ∧ vfG (p.getD 1 default) 1) {k : Nat} (hk : k < 2) : ∃ n, 0 ≤ n ∧ n ≤ 2 ∧ vfG (p.getD k default) n := by
  have : k = 0 ∨ k = 1 := by omega
  rcases this with rfl | rfl
  · exact ⟨2, by omega, by omega, h.2.1⟩
  · exact ⟨1, by omega, by omega, h.2.2⟩
theorem vfG.oki {x : VFnT} {n : Int} (h : vfG x n) (j : Nat) : okI 6 (x.blocks.getD j default).ins := by
  refine ⟨Nat.le_trans (h.ins j) (by omega), fun z hz => ?_⟩
  have hv := h.val
  unfold valV at hv
  rw [Bool.and_eq_true] at hv
  rcases Nat.lt_or_ge j x.blocks.length with hj | hj
  · have hb := all_at hv.2 hj
    unfold blkV at hb
    rw [Bool.and_eq_true] at hb
    have hz2 := List.all_eq_true.1 hb.1 z hz
    unfold vinV at hz2
    simp only [Bool.and_eq_true, decide_eq_true_eq] at hz2
    omega
  · rw [getD_out hj] at hz; cases hz
theorem bd_set {p : List VFnT} {k : Nat} {x : VFnT} (h : bdP p) (hx : ∀ j, okI 7 (x.blocks.getD j default).ins) : bdP (p.set k x) := bdP_of fun y hy j => by
  rcases List.mem_or_eq_of_mem_set hy with hy | rfl
  · exact bdP_mem h y hy j
  · exact (hx j).1
theorem bd_7 {p q : List VFnT} (h : bdP p) (hq : bdP q) : ∀ x ∈ [p, q, p.take 1, p.drop 1, [], [p.getD 1 default, p.getD 0 default], [p.getD 0 default, p.getD 0 default, p.getD 1 default, p.getD 0 default, p.getD 1 default, p.getD 0 default, p.getD 1 default, p.getD 0 default, p.getD 1 default]], bdP x := by
  have h2 : ∀ l : List VFnT, (∀ x ∈ l, x = p.getD 0 default ∨ x = p.getD 1 default) → bdP l := fun l hl => bdP_of fun x hx j => by
    rcases hl x hx with rfl | rfl
    · exact h 0 j
    · exact h 1 j
  intro x hx
  simp only [List.mem_cons, List.not_mem_nil, or_false] at hx
  rcases hx with rfl | rfl | rfl | rfl | rfl | rfl | rfl
  · exact h
  · exact hq
  · exact bdP_of fun x hx => bdP_mem h x (List.mem_of_mem_take hx)
  · exact bdP_of fun x hx => bdP_mem h x (List.mem_of_mem_drop hx)
  · exact fun k j => Nat.zero_le _
  · exact h2 _ (by simp)
  · exact h2 _ (by simp)
theorem len_at {l : List (List Int)} {n : Nat} (h : ∀ x ∈ l, x.length ≤ n) (i : Nat) : (l.getD i default).length ≤ n := by
  rw [List.getD_eq_getElem?_getD]
  rcases hk : l[i]? with _ | x
  · exact Nat.zero_le _
  · exact h x (List.mem_of_getElem? hk)
theorem len_4 {l : List Int} {a b : Int} (h : l.length ≤ 8) : ∀ x ∈ [[3, 2], l, [], [a, b]], x.length ≤ 8 := by
  intro x hx
  simp only [List.mem_cons, List.not_mem_nil, or_false] at hx
  rcases hx with rfl | rfl | rfl | rfl
  · decide
  · exact h
  · decide
  · exact Nat.le_of_ble_eq_true rfl
theorem vp_good {p : List VFnT} (h : p.length = 2 ∧ vfG (p.getD 0 default) 2 ∧ vfG (p.getD 1 default) 1) : vpV p [3, 2] = true := by
  have hp : p = [p.getD 0 default, p.getD 1 default] := by
    obtain ⟨h0, _⟩ := h
    match p, h0 with
    | [a, b], _ => rfl
  have hF : ∀ {x : VFnT} {n : Int}, vfG x n → vpF p 2 x = true := by
    intro x n hx
    refine vpF_yes hx.val (List.all_eq_true.2 fun b hb => List.all_eq_true.2 fun v hv => vpI_iff.2 ?_)
    have hc := List.all_eq_true.1 (List.all_eq_true.1 hx.ck b hb) v hv
    unfold ckI at hc
    have hc := of_decide_eq_true hc
    have e0 := h.2.1.par
    have e1 := h.2.2.par
    rw [h.1]
    refine ⟨fun h6 => ?_, fun h34 => hc.2 h34⟩
    rcases hc.1 h6 with ⟨hn, ha⟩ | ⟨hn, ha⟩
    · rw [hn]
      refine ⟨by decide, ?_⟩
      rw [ha]; exact e0
    · rw [hn]
      refine ⟨by decide, ?_⟩
      rw [ha]; exact e1
  unfold vpV
  have e1 : p.all (vpF p (([3, 2] : List Int).length : Int)) = true := List.all_eq_true.2 fun x hx => by
    rw [hp] at hx
    simp only [List.mem_cons, List.not_mem_nil, or_false] at hx
    rcases hx with rfl | rfl
    · exact hF h.2.1
    · exact hF h.2.2
  rw [e1, h.1]; rfl

set_option maxHeartbeats 2000000 in
theorem program_c {a_l : Option Addr} {k_l : Nat} (l : List Int) {a_m : Option Addr} {k_m : Nat} (m : List Int) (how : Int) (at_ : Int) {a_lens : Option Addr} {k_lens : Nat} (lens : List Int) (k : Int) {F : Fz} {H : Heap} {R : List Fp} (hs : HS (.of H []) F H [] R) (hl : SR F (.slice a_l l.length k_l) l) (hm : SR F (.slice a_m m.length k_m) m) (hhow : in64 how) (hat_ : in64 at_) (hlens : SR F (.slice a_lens lens.length k_lens) lens) (hk : in64 k) (hT : TB 37 tabC F) : C Tryd.prog 1 (KT 60 38 37 tabC) 9 [(.slice a_l l.length k_l), (.slice a_m m.length k_m), (.int .i64 how), (.int .i64 at_), (.slice a_lens lens.length k_lens), (.int .i64 k)] H fun v H' => ∃ (r : Bool) (F' : Fz), Fz.le F F' ∧ HS (.of H []) F' H' [] R ∧ v = .bool r ∧ r = true := by
  refine c_enter Tryd.func9 rfl rfl ?_
  refine wk_foc 1 rfl ?_
  refine wr 2 [] 12 12 [] [(12, (.bool false))] trivial (by kernel_rfl) rfl fun gg1 => ?_
  refine wk_region ?_
  refine wro 2 0 [] 21 22 [] [(21, (.slice a_l l.length k_l)), (22, (.slice a_m m.length k_m))] trivial (by kernel_rfl) rfl fun gg2 => ?_
  refine wo_call (ap_call rfl rfl rfl) rfl rfl (m6.vfuncs_c 38 l m (HS.call hs) hl hm hT) ?_
  rintro _ H3 ⟨ap3, kp3, p3, aq3, kq3, q3, F3, hF3, hs3, rfl, hrp3, hrq3, rfl, h3⟩
  replace hs3 := HS.back hs rfl hs3
  have hs3 : HS _ _ _ [] _ := hs3
  replace hT := hT.mono hF3
  replace hl := hl.mono hF3
  replace hlens := hlens.mono hF3
  replace hm := hm.mono hF3
  refine wro 5 3 [] 24 25 [13, 14, 20] [(13, (.slice ap3 p3.length kp3)), (14, (.slice aq3 [3, 2].length kq3))] trivial (by kernel_rfl) rfl fun gg4 => ?_
  refine wo_end 2 rfl ?_
  have h_ : p3.length = 2 ∧ vfG (p3.getD 0 default) 2 ∧ vfG (p3.getD 1 default) 1 := by assumption
  have h_l := h_.1
  have hpk := pick_imp at_ 2 (by omega)
  have hkk := pick_imp k 20 (by omega)
  obtain ⟨gn, _, _, hgn⟩ := g_at h_ (k := (pickV at_ 2).toNat) (by omega)
  have hgb := hgn.nb
  have htq : in64 (Int.tdiv at_ 2) := vq hat_ (by decide)
  refine wk_region ?_
  refine wm (.slice ap3 p3.length kp3) rfl rfl rfl ?_
  have hs5 := HS.snoc hs3
  have hs5 : HS _ _ _ [[]] _ := hs5
  refine wo_rs (rs_app (α := VFnT) (q := 0) (OS.nil : OS F3 (.slice none 0 0) ([] : List VFnT) []) hs5 rfl rfl rfl (SR.sv hrp3 hs5) rfl rfl rfl rfl rfl rfl rfl (by first | omega | (simp only [List.length_append, List.length_cons, List.length_nil]; omega))) rfl rfl ?_
  rintro _ H7 p6 ⟨a6, k6, rfl, ho6, hs7, _⟩
  have hs7 : HS _ _ _ [p6] _ := hs7
  have ho6 : OS F3 (.slice a6 p3.length k6) p3 p6 := ho6
  refine wa (.slice a6 p3.length k6) rfl rfl rfl ?_
  refine wo_end 2 rfl ?_
  refine wk_region ?_
  have fq8 := pick_imp at_ (2 : Int)
  obtain ⟨cf9, hv9⟩ := Sv.view (OS.sv ho6 hs7 (i := 0) rfl)
  obtain ⟨g10_0, g10_1, s10_2⟩ := VFnT.fx (hv9 ((pickV at_ (2 : Int)).toNat))
  have tq11 : in64 at_ → in64 (Int.tdiv at_ 2) := fun h => vq h (by decide)
  refine wro 11 0 [(2, .o (.int .i64 (pickV at_ (2 : Int)))), (5, .o (.int .i64 (pickV at_ (2 : Int)))), (7, .o (.agg ⟨[(.int .i64 ((p3.getD ((pickV at_ (2 : Int)).toNat) default).params)), (.int .i64 ((p3.getD ((pickV at_ (2 : Int)).toNat) default).regs)), (.slice (cA (cf9 ((pickV at_ (2 : Int)).toNat)) 2) ((p3.getD ((pickV at_ (2 : Int)).toNat) default).blocks).length (cK (cf9 ((pickV at_ (2 : Int)).toNat)) 2))]⟩))] 28 38 [] [(28, (.slice a6 p3.length k6)), (30, (.int .i64 (pickV at_ (2 : Int)))), (35, (.agg ⟨[(.int .i64 ((p3.getD ((pickV at_ (2 : Int)).toNat) default).params)), (.int .i64 ((p3.getD ((pickV at_ (2 : Int)).toNat) default).regs)), (.slice (cA (cf9 ((pickV at_ (2 : Int)).toNat)) 2) ((p3.getD ((pickV at_ (2 : Int)).toNat) default).blocks).length (cK (cf9 ((pickV at_ (2 : Int)).toNat)) 2))]⟩)), (36, (.int .i64 how)), (38, (.int .i64 (Int.tdiv at_ 2)))] (vA (m1.pick_c_q 38 at_ (2) H7 (by first | omega | (dsimp only; omega) | (simp <;> omega))) (vA (m1.pick_c_q 38 at_ (2) H7 (by first | omega | (dsimp only; omega) | (simp <;> omega))) (vA (Sv.ix (j := pickV at_ (2 : Int)) (OS.sv ho6 hs7 (i := 0) rfl) (by first | omega | (dsimp only; omega) | (simp <;> omega)) (by first | omega | (dsimp only; omega) | (simp <;> omega))) (vA (qn 24 0 3 (VFnT.vw (hv9 ((pickV at_ (2 : Int)).toNat)) (by first | omega | (dsimp only; omega) | (simp <;> omega))) rfl rfl rfl rfl) (vA (vA (show (2 : Int) ≠ 0 from by decide) (vq (a := at_) (b := 2) (by first | omega | (dsimp only; omega) | (simp <;> omega)) (by decide))) trivial))))) (by kernel_rfl) rfl fun gg12 => ?_
  refine wo_call (ap_call rfl rfl rfl) rfl rfl (m9.mut_c 38 (p3.getD ((pickV at_ (2 : Int)).toNat) default) how (Int.tdiv at_ 2) (HS.call hs7) (by first | omega | (dsimp only; omega) | (simp <;> omega)) (by first | omega | (dsimp only; omega) | (simp <;> omega)) s10_2 (by first | omega | (dsimp only; omega) | (simp <;> omega)) (by first | omega | (dsimp only; omega) | (simp <;> omega)) hT (by first | exact fun j => vfG.oki hgn j | omega) (by first | exact fun j => vfG.oki hgn j | omega)) ?_
  rintro _ H13 ⟨x13, ax13_2, kx13_2, F13, hF13, hs13, rfl, hgx13_0, hgx13_1, hrx13_2, h113, h213⟩
  replace hs13 := HS.back hs7 rfl hs13
  have hs13 : HS _ _ _ [_] _ := hs13
  replace hT := hT.mono hF13
  replace hl := hl.mono hF13
  replace hlens := hlens.mono hF13
  replace hm := hm.mono hF13
  replace ho6 := ho6.mono hF13
  replace hrp3 := hrp3.mono hF13
  replace hrq3 := hrq3.mono hF13
  replace s10_2 := s10_2.mono hF13
  refine wro 1 12 [] 40 40 [] [(40, (.pointer (some ⟨sB (.slice a6 p3.length k6), sO (.slice a6 p3.length k6) + ((pickV at_ (2 : Int)).toNat) * Rp.sz VFnT, none⟩)))] (vA (Sv.ix (j := pickV at_ (2 : Int)) (OS.sv ho6 hs13 (i := 0) rfl) (by first | omega | (dsimp only; omega) | (simp <;> omega)) (by first | omega | (dsimp only; omega) | (simp <;> omega))) trivial) (by kernel_rfl) rfl fun gg14 => ?_
  refine wo_rk (rs_st (α := VFnT) (j := (pickV at_ (2 : Int)).toNat) (off := 0) (q := 0) x13 ho6 hs13 rfl rfl rfl rfl rfl rfl rfl rfl (getD_at (x := default) (by first | omega | (dsimp only; omega) | (simp <;> omega))) rfl (st_whole (F := F13) (Y := x13) (cl := [(.int .i64 x13.params), (.int .i64 x13.regs), (.slice ax13_2 x13.blocks.length kx13_2)]) ⟨ax13_2, kx13_2, rfl, by first | omega | (dsimp only; omega) | (simp <;> omega), by first | omega | (dsimp only; omega) | (simp <;> omega), hrx13_2⟩)) rfl ?_
  rintro _ H17 p15 ⟨ho16, hs17, _⟩
  have hs17 : HS _ _ _ [p15] _ := hs17
  have hnp15 := OS.len' ho16
  refine wo_end 3 rfl ?_
  refine wr 1 [] 41 43 [] [(43, (.bool (decide ((8 : Int) < (lens.length : Int)))))] trivial (by kernel_rfl) rfl fun gg18 => ?_
  refine wk_join (fun f H' => ∃ (le : List Int) (la19_4 : Option Addr) (lk19_4 : Nat) (F' : Fz), Fz.le F13 F' ∧ HS (Base.of H []) F' H' [p15] R ∧ SR F' (.slice la19_4 le.length lk19_4) le ∧ agrees f [(4, (.slice la19_4 le.length lk19_4)), (5, (.int .i64 k)), (12, (.bool false)), (13, (.slice ap3 p3.length kp3)), (14, (.slice aq3 [3, 2].length kq3)), (15, (.slice a6 p3.length k6))] ∧ (le.length ≤ 8)) (fun jn19 => ?_) ?_
  · skip
    refine wk_if 0 0 (v := (decide ((8 : Int) < (lens.length : Int)))) rfl rfl rfl rfl (fun c20b => ?_) (fun c20b => ?_)
    · have c20 := c20b
      try simp only [BS] at c20
      refine wk_region ?_
      refine wm (.slice a_lens lens.length k_lens) rfl rfl rfl ?_
      refine wo_rs (rs_cutt (α := Int) (j := 8) hlens hs17 rfl rfl rfl (optN (by decide)) (by first | omega | (dsimp only; omega) | (simp <;> omega))) rfl rfl ?_
      rintro _ _ _ ⟨a21, k21, rfl, hH21, hq21⟩
      simp only at hH21; replace hH21 := hH21.symm; subst hH21
      refine wa (.slice a21 (lens.take 8).length k21) rfl rfl rfl ?_
      refine wo_end 0 rfl ?_
      exact jn19 _ _ ⟨lens.take 8, a21, k21, _, (Fz.le_refl _), hs17, hq21, (agC rfl (agC rfl (agC rfl (agC rfl (agC rfl (agC rfl agN)))))), (by first | omega | (simp; omega))⟩
    · have c20 := c20b
      try simp only [BS] at c20
      exact jn19 _ _ ⟨lens, a_lens, k_lens, _, (Fz.le_refl _), hs17, hlens, (agC rfl (agC rfl (agC rfl (agC rfl (agC rfl (agC rfl agN)))))), (by first | omega | (simp; omega))⟩
  · skip
    rintro f19 H19 ⟨le, la19_4, lk19_4, F19, hF19, hs19, lh19_4, hf19, hle⟩
    refine wk_canon _ hf19 (fun gg19 => ?_)
    clear hf19
    replace hT := hT.mono hF19
    replace ho16 := ho16.mono hF19
    replace hrp3 := hrp3.mono hF19
    replace hrq3 := hrq3.mono hF19
    refine wk_foc 3 rfl ?_
    refine wf_region rfl ?_
    refine fm (.slice ap3 p3.length kp3) rfl rfl rfl ?_
    refine fm (.slice a6 p3.length k6) rfl rfl rfl ?_
    refine fm (.slice ap3 p3.length kp3) rfl rfl rfl ?_
    refine wf_rs (id := .q fun b => F19 b ≠ none) (rs_cutt (α := VFnT) (j := 1) hrp3 hs19.log0 rfl rfl rfl (optN (by decide)) (by first | omega | (dsimp only; omega) | (simp <;> omega))) rfl rfl (by rintro _ _ _ ⟨_, _, _, hH, _⟩; exact did_q rfl (SR.q hrp3)) (⟨.inl rfl, ⟨.inr trivial, ⟨.inr trivial, trivial⟩⟩⟩) ?_
    rintro _ _ _ ⟨a22, k22, rfl, hH22, hq22⟩ lg22 hlg22
    simp only at hH22; replace hH22 := hH22.symm; subst hH22
    have hs22 := HS.lg hs19.log0 hs19 hlg22
    generalize ({ { H19 with log := [] } with log := lg22 } : Heap) = H22g at hs22 ⊢
    refine fm (.slice ap3 p3.length kp3) rfl rfl rfl ?_
    refine wf_rs (id := .q fun b => F19 b ≠ none) (rs_cutd (α := VFnT) (i := 1) hrp3 hs22.log0 rfl rfl rfl (optN (by decide)) (by first | omega | (dsimp only; omega) | (simp <;> omega))) rfl rfl (by rintro _ _ _ ⟨_, _, _, hH, _⟩; exact did_q rfl (SR.q hrp3)) (⟨.inl rfl, ⟨.inr trivial, ⟨.inr trivial, ⟨.inr trivial, ⟨.inr trivial, trivial⟩⟩⟩⟩⟩) ?_
    rintro _ _ _ ⟨a23, k23, rfl, hH23, hq23⟩ lg23 hlg23
    simp only at hH23; replace hH23 := hH23.symm; subst hH23
    have hs23 := HS.lg hs22.log0 hs22 hlg23
    generalize ({ { H22g with log := [] } with log := lg23 } : Heap) = H23g at hs23 ⊢
    refine fm (.slice ap3 p3.length kp3) rfl rfl rfl ?_
    refine wf_pure (v := (.pointer (some ⟨sB (.slice ap3 p3.length kp3), sO (.slice ap3 p3.length kp3) + 1 * Rp.sz VFnT, none⟩))) (id := .v) (ap_idxV (α := VFnT) (j := 1) rfl rfl rfl rfl (SR.sv hrp3 hs23.log0) (by decide) (by first | omega | (dsimp only; omega) | (simp <;> omega))) rfl rfl (did_v rfl) (okD_v _) ?_
    obtain ⟨cs24, hr24, hc24⟩ := Sv.at (SR.sv hrp3 hs23.log0) (getD_at (x := default) (show 1 < p3.length from by first | omega | (dsimp only; omega) | (simp <;> omega)))
    obtain ⟨a25_2, k25_2, rfl, g25_0, g25_1, s25_2⟩ := hr24
    refine wf_pure (v := (.agg ⟨[(.int .i64 ((p3.getD 1 default).params)), (.int .i64 ((p3.getD 1 default).regs)), (.slice a25_2 ((p3.getD 1 default).blocks).length k25_2)]⟩)) (id := .l (sB (.slice ap3 p3.length kp3))) (ap_ldN (i := 0) rfl rfl rfl hc24 rfl rfl rfl) rfl rfl (did_l rfl) (⟨.inl rfl, ⟨.inl rfl, ⟨.inr trivial, ⟨.inr trivial, ⟨.inr trivial, ⟨.inr trivial, ⟨.inr trivial, ⟨.inr trivial, trivial⟩⟩⟩⟩⟩⟩⟩⟩) ?_
    refine fm (.slice ap3 p3.length kp3) rfl rfl rfl ?_
    refine wf_pure (v := (.pointer (some ⟨sB (.slice ap3 p3.length kp3), sO (.slice ap3 p3.length kp3) + 0 * Rp.sz VFnT, none⟩))) (id := .v) (ap_idxV (α := VFnT) (j := 0) rfl rfl rfl rfl (SR.sv hrp3 hs23.log0) (by decide) (by first | omega | (dsimp only; omega) | (simp <;> omega))) rfl rfl (did_v rfl) (okD_v _) ?_
    obtain ⟨cs26, hr26, hc26⟩ := Sv.at (SR.sv hrp3 hs23.log0) (getD_at (x := default) (show 0 < p3.length from by first | omega | (dsimp only; omega) | (simp <;> omega)))
    obtain ⟨a27_2, k27_2, rfl, g27_0, g27_1, s27_2⟩ := hr26
    refine wf_pure (v := (.agg ⟨[(.int .i64 ((p3.getD 0 default).params)), (.int .i64 ((p3.getD 0 default).regs)), (.slice a27_2 ((p3.getD 0 default).blocks).length k27_2)]⟩)) (id := .l (sB (.slice ap3 p3.length kp3))) (ap_ldN (i := 0) rfl rfl rfl hc26 rfl rfl rfl) rfl rfl (did_l rfl) (⟨.inl rfl, ⟨.inl rfl, ⟨.inr trivial, ⟨.inr trivial, ⟨.inr trivial, ⟨.inr trivial, ⟨.inr trivial, ⟨.inr trivial, ⟨.inr trivial, ⟨.inr trivial, ⟨.inr trivial, trivial⟩⟩⟩⟩⟩⟩⟩⟩⟩⟩⟩) ?_
    refine wf_rs (id := .a) (rs_lit (α := VFnT) (ps := [(0, (.agg ⟨[(.int .i64 ((p3.getD 1 default).params)), (.int .i64 ((p3.getD 1 default).regs)), (.slice a25_2 ((p3.getD 1 default).blocks).length k25_2)]⟩)), (1, (.agg ⟨[(.int .i64 ((p3.getD 0 default).params)), (.int .i64 ((p3.getD 0 default).regs)), (.slice a27_2 ((p3.getD 0 default).blocks).length k27_2)]⟩))]) (cells := [(.int .i64 ((p3.getD 1 default).params)), (.int .i64 ((p3.getD 1 default).regs)), (.slice a25_2 ((p3.getD 1 default).blocks).length k25_2), (.int .i64 ((p3.getD 0 default).params)), (.int .i64 ((p3.getD 0 default).regs)), (.slice a27_2 ((p3.getD 0 default).blocks).length k27_2)]) ([(p3.getD 1 default), (p3.getD 0 default)] : List VFnT) hs23.log0 rfl rfl rfl (by kernel_rfl) ⟨[(.int .i64 ((p3.getD 1 default).params)), (.int .i64 ((p3.getD 1 default).regs)), (.slice a25_2 ((p3.getD 1 default).blocks).length k25_2)], [(.int .i64 ((p3.getD 0 default).params)), (.int .i64 ((p3.getD 0 default).regs)), (.slice a27_2 ((p3.getD 0 default).blocks).length k27_2)], rfl, ⟨a25_2, k25_2, rfl, by first | omega | (dsimp only; omega) | (simp <;> omega), by first | omega | (dsimp only; omega) | (simp <;> omega), s25_2⟩, ⟨[(.int .i64 ((p3.getD 0 default).params)), (.int .i64 ((p3.getD 0 default).regs)), (.slice a27_2 ((p3.getD 0 default).blocks).length k27_2)], [], rfl, ⟨a27_2, k27_2, rfl, by first | omega | (dsimp only; omega) | (simp <;> omega), by first | omega | (dsimp only; omega) | (simp <;> omega), s27_2⟩, rfl⟩⟩ rfl) rfl rfl (fun _ _ _ _ => did_a rfl rfl rfl) (⟨.inl rfl, ⟨.inl rfl, ⟨.inl rfl, ⟨.inl rfl, ⟨.inl rfl, ⟨.inl rfl, ⟨.inr trivial, ⟨.inr trivial, ⟨.inr trivial, ⟨.inr trivial, ⟨.inr trivial, ⟨.inr trivial, trivial⟩⟩⟩⟩⟩⟩⟩⟩⟩⟩⟩⟩) ?_
    rintro _ H29 p28 ⟨a28, k28, rfl, ho28, hs29, _⟩ lg29 hlg29
    replace hs29 := HS.lg hs29 hs23 hlg29
    generalize ({ H29 with log := lg29 } : Heap) = H29g at hs29 ⊢
    have hs29 : HS _ _ _ [_, p28] _ := hs29
    refine fm (.slice ap3 p3.length kp3) rfl rfl rfl ?_
    refine wf_pure (v := (.pointer (some ⟨sB (.slice ap3 p3.length kp3), sO (.slice ap3 p3.length kp3) + 0 * Rp.sz VFnT, none⟩))) (id := .v) (ap_idxV (α := VFnT) (j := 0) rfl rfl rfl rfl (SR.sv hrp3 hs29.log0) (by decide) (by first | omega | (dsimp only; omega) | (simp <;> omega))) rfl rfl (did_v rfl) (okD_v _) ?_
    obtain ⟨cs30, hr30, hc30⟩ := Sv.at (SR.sv hrp3 hs29.log0) (getD_at (x := default) (show 0 < p3.length from by first | omega | (dsimp only; omega) | (simp <;> omega)))
    obtain ⟨a31_2, k31_2, rfl, g31_0, g31_1, s31_2⟩ := hr30
    refine wf_pure (v := (.agg ⟨[(.int .i64 ((p3.getD 0 default).params)), (.int .i64 ((p3.getD 0 default).regs)), (.slice a31_2 ((p3.getD 0 default).blocks).length k31_2)]⟩)) (id := .l (sB (.slice ap3 p3.length kp3))) (ap_ldN (i := 0) rfl rfl rfl hc30 rfl rfl rfl) rfl rfl (did_l rfl) (⟨.inl rfl, ⟨.inl rfl, ⟨.inr trivial, ⟨.inr trivial, ⟨.inr trivial, ⟨.inr trivial, ⟨.inr trivial, ⟨.inr trivial, ⟨.inr trivial, ⟨.inr trivial, ⟨.inr trivial, ⟨.inr trivial, ⟨.inr trivial, ⟨.inr trivial, ⟨.inr trivial, trivial⟩⟩⟩⟩⟩⟩⟩⟩⟩⟩⟩⟩⟩⟩⟩) ?_
    refine fm (.slice ap3 p3.length kp3) rfl rfl rfl ?_
    refine wf_pure (v := (.pointer (some ⟨sB (.slice ap3 p3.length kp3), sO (.slice ap3 p3.length kp3) + 0 * Rp.sz VFnT, none⟩))) (id := .v) (ap_idxV (α := VFnT) (j := 0) rfl rfl rfl rfl (SR.sv hrp3 hs29.log0) (by decide) (by first | omega | (dsimp only; omega) | (simp <;> omega))) rfl rfl (did_v rfl) (okD_v _) ?_
    obtain ⟨cs32, hr32, hc32⟩ := Sv.at (SR.sv hrp3 hs29.log0) (getD_at (x := default) (show 0 < p3.length from by first | omega | (dsimp only; omega) | (simp <;> omega)))
    obtain ⟨a33_2, k33_2, rfl, g33_0, g33_1, s33_2⟩ := hr32
    refine wf_pure (v := (.agg ⟨[(.int .i64 ((p3.getD 0 default).params)), (.int .i64 ((p3.getD 0 default).regs)), (.slice a33_2 ((p3.getD 0 default).blocks).length k33_2)]⟩)) (id := .l (sB (.slice ap3 p3.length kp3))) (ap_ldN (i := 0) rfl rfl rfl hc32 rfl rfl rfl) rfl rfl (did_l rfl) (⟨.inl rfl, ⟨.inl rfl, ⟨.inr trivial, ⟨.inr trivial, ⟨.inr trivial, ⟨.inr trivial, ⟨.inr trivial, ⟨.inr trivial, ⟨.inr trivial, ⟨.inr trivial, ⟨.inr trivial, ⟨.inr trivial, ⟨.inr trivial, ⟨.inr trivial, ⟨.inr trivial, ⟨.inr trivial, ⟨.inr trivial, ⟨.inr trivial, trivial⟩⟩⟩⟩⟩⟩⟩⟩⟩⟩⟩⟩⟩⟩⟩⟩⟩⟩) ?_
    refine fm (.slice ap3 p3.length kp3) rfl rfl rfl ?_
    refine wf_pure (v := (.pointer (some ⟨sB (.slice ap3 p3.length kp3), sO (.slice ap3 p3.length kp3) + 1 * Rp.sz VFnT, none⟩))) (id := .v) (ap_idxV (α := VFnT) (j := 1) rfl rfl rfl rfl (SR.sv hrp3 hs29.log0) (by decide) (by first | omega | (dsimp only; omega) | (simp <;> omega))) rfl rfl (did_v rfl) (okD_v _) ?_
    obtain ⟨cs34, hr34, hc34⟩ := Sv.at (SR.sv hrp3 hs29.log0) (getD_at (x := default) (show 1 < p3.length from by first | omega | (dsimp only; omega) | (simp <;> omega)))
    obtain ⟨a35_2, k35_2, rfl, g35_0, g35_1, s35_2⟩ := hr34
    refine wf_pure (v := (.agg ⟨[(.int .i64 ((p3.getD 1 default).params)), (.int .i64 ((p3.getD 1 default).regs)), (.slice a35_2 ((p3.getD 1 default).blocks).length k35_2)]⟩)) (id := .l (sB (.slice ap3 p3.length kp3))) (ap_ldN (i := 0) rfl rfl rfl hc34 rfl rfl rfl) rfl rfl (did_l rfl) (⟨.inl rfl, ⟨.inl rfl, ⟨.inr trivial, ⟨.inr trivial, ⟨.inr trivial, ⟨.inr trivial, ⟨.inr trivial, ⟨.inr trivial, ⟨.inr trivial, ⟨.inr trivial, ⟨.inr trivial, ⟨.inr trivial, ⟨.inr trivial, ⟨.inr trivial, ⟨.inr trivial, ⟨.inr trivial, ⟨.inr trivial, ⟨.inr trivial, ⟨.inr trivial, ⟨.inr trivial, ⟨.inr trivial, trivial⟩⟩⟩⟩⟩⟩⟩⟩⟩⟩⟩⟩⟩⟩⟩⟩⟩⟩⟩⟩⟩) ?_
    refine fm (.slice ap3 p3.length kp3) rfl rfl rfl ?_
    refine wf_pure (v := (.pointer (some ⟨sB (.slice ap3 p3.length kp3), sO (.slice ap3 p3.length kp3) + 0 * Rp.sz VFnT, none⟩))) (id := .v) (ap_idxV (α := VFnT) (j := 0) rfl rfl rfl rfl (SR.sv hrp3 hs29.log0) (by decide) (by first | omega | (dsimp only; omega) | (simp <;> omega))) rfl rfl (did_v rfl) (okD_v _) ?_
    obtain ⟨cs36, hr36, hc36⟩ := Sv.at (SR.sv hrp3 hs29.log0) (getD_at (x := default) (show 0 < p3.length from by first | omega | (dsimp only; omega) | (simp <;> omega)))
    obtain ⟨a37_2, k37_2, rfl, g37_0, g37_1, s37_2⟩ := hr36
    refine wf_pure (v := (.agg ⟨[(.int .i64 ((p3.getD 0 default).params)), (.int .i64 ((p3.getD 0 default).regs)), (.slice a37_2 ((p3.getD 0 default).blocks).length k37_2)]⟩)) (id := .l (sB (.slice ap3 p3.length kp3))) (ap_ldN (i := 0) rfl rfl rfl hc36 rfl rfl rfl) rfl rfl (did_l rfl) (⟨.inl rfl, ⟨.inl rfl, ⟨.inr trivial, ⟨.inr trivial, ⟨.inr trivial, ⟨.inr trivial, ⟨.inr trivial, ⟨.inr trivial, ⟨.inr trivial, ⟨.inr trivial, ⟨.inr trivial, ⟨.inr trivial, ⟨.inr trivial, ⟨.inr trivial, ⟨.inr trivial, ⟨.inr trivial, ⟨.inr trivial, ⟨.inr trivial, ⟨.inr trivial, ⟨.inr trivial, ⟨.inr trivial, ⟨.inr trivial, ⟨.inr trivial, ⟨.inr trivial, trivial⟩⟩⟩⟩⟩⟩⟩⟩⟩⟩⟩⟩⟩⟩⟩⟩⟩⟩⟩⟩⟩⟩⟩⟩) ?_
    refine fm (.slice ap3 p3.length kp3) rfl rfl rfl ?_
    refine wf_pure (v := (.pointer (some ⟨sB (.slice ap3 p3.length kp3), sO (.slice ap3 p3.length kp3) + 1 * Rp.sz VFnT, none⟩))) (id := .v) (ap_idxV (α := VFnT) (j := 1) rfl rfl rfl rfl (SR.sv hrp3 hs29.log0) (by decide) (by first | omega | (dsimp only; omega) | (simp <;> omega))) rfl rfl (did_v rfl) (okD_v _) ?_
    obtain ⟨cs38, hr38, hc38⟩ := Sv.at (SR.sv hrp3 hs29.log0) (getD_at (x := default) (show 1 < p3.length from by first | omega | (dsimp only; omega) | (simp <;> omega)))
    obtain ⟨a39_2, k39_2, rfl, g39_0, g39_1, s39_2⟩ := hr38
    refine wf_pure (v := (.agg ⟨[(.int .i64 ((p3.getD 1 default).params)), (.int .i64 ((p3.getD 1 default).regs)), (.slice a39_2 ((p3.getD 1 default).blocks).length k39_2)]⟩)) (id := .l (sB (.slice ap3 p3.length kp3))) (ap_ldN (i := 0) rfl rfl rfl hc38 rfl rfl rfl) rfl rfl (did_l rfl) (⟨.inl rfl, ⟨.inl rfl, ⟨.inr trivial, ⟨.inr trivial, ⟨.inr trivial, ⟨.inr trivial, ⟨.inr trivial, ⟨.inr trivial, ⟨.inr trivial, ⟨.inr trivial, ⟨.inr trivial, ⟨.inr trivial, ⟨.inr trivial, ⟨.inr trivial, ⟨.inr trivial, ⟨.inr trivial, ⟨.inr trivial, ⟨.inr trivial, ⟨.inr trivial, ⟨.inr trivial, ⟨.inr trivial, ⟨.inr trivial, ⟨.inr trivial, ⟨.inr trivial, ⟨.inr trivial, ⟨.inr trivial, ⟨.inr trivial, trivial⟩⟩⟩⟩⟩⟩⟩⟩⟩⟩⟩⟩⟩⟩⟩⟩⟩⟩⟩⟩⟩⟩⟩⟩⟩⟩⟩) ?_
    refine fm (.slice ap3 p3.length kp3) rfl rfl rfl ?_
    refine wf_pure (v := (.pointer (some ⟨sB (.slice ap3 p3.length kp3), sO (.slice ap3 p3.length kp3) + 0 * Rp.sz VFnT, none⟩))) (id := .v) (ap_idxV (α := VFnT) (j := 0) rfl rfl rfl rfl (SR.sv hrp3 hs29.log0) (by decide) (by first | omega | (dsimp only; omega) | (simp <;> omega))) rfl rfl (did_v rfl) (okD_v _) ?_
    obtain ⟨cs40, hr40, hc40⟩ := Sv.at (SR.sv hrp3 hs29.log0) (getD_at (x := default) (show 0 < p3.length from by first | omega | (dsimp only; omega) | (simp <;> omega)))
    obtain ⟨a41_2, k41_2, rfl, g41_0, g41_1, s41_2⟩ := hr40
    refine wf_pure (v := (.agg ⟨[(.int .i64 ((p3.getD 0 default).params)), (.int .i64 ((p3.getD 0 default).regs)), (.slice a41_2 ((p3.getD 0 default).blocks).length k41_2)]⟩)) (id := .l (sB (.slice ap3 p3.length kp3))) (ap_ldN (i := 0) rfl rfl rfl hc40 rfl rfl rfl) rfl rfl (did_l rfl) (⟨.inl rfl, ⟨.inl rfl, ⟨.inr trivial, ⟨.inr trivial, ⟨.inr trivial, ⟨.inr trivial, ⟨.inr trivial, ⟨.inr trivial, ⟨.inr trivial, ⟨.inr trivial, ⟨.inr trivial, ⟨.inr trivial, ⟨.inr trivial, ⟨.inr trivial, ⟨.inr trivial, ⟨.inr trivial, ⟨.inr trivial, ⟨.inr trivial, ⟨.inr trivial, ⟨.inr trivial, ⟨.inr trivial, ⟨.inr trivial, ⟨.inr trivial, ⟨.inr trivial, ⟨.inr trivial, ⟨.inr trivial, ⟨.inr trivial, ⟨.inr trivial, ⟨.inr trivial, ⟨.inr trivial, trivial⟩⟩⟩⟩⟩⟩⟩⟩⟩⟩⟩⟩⟩⟩⟩⟩⟩⟩⟩⟩⟩⟩⟩⟩⟩⟩⟩⟩⟩⟩) ?_
    refine fm (.slice ap3 p3.length kp3) rfl rfl rfl ?_
    refine wf_pure (v := (.pointer (some ⟨sB (.slice ap3 p3.length kp3), sO (.slice ap3 p3.length kp3) + 1 * Rp.sz VFnT, none⟩))) (id := .v) (ap_idxV (α := VFnT) (j := 1) rfl rfl rfl rfl (SR.sv hrp3 hs29.log0) (by decide) (by first | omega | (dsimp only; omega) | (simp <;> omega))) rfl rfl (did_v rfl) (okD_v _) ?_
    obtain ⟨cs42, hr42, hc42⟩ := Sv.at (SR.sv hrp3 hs29.log0) (getD_at (x := default) (show 1 < p3.length from by first | omega | (dsimp only; omega) | (simp <;> omega)))
    obtain ⟨a43_2, k43_2, rfl, g43_0, g43_1, s43_2⟩ := hr42
    refine wf_pure (v := (.agg ⟨[(.int .i64 ((p3.getD 1 default).params)), (.int .i64 ((p3.getD 1 default).regs)), (.slice a43_2 ((p3.getD 1 default).blocks).length k43_2)]⟩)) (id := .l (sB (.slice ap3 p3.length kp3))) (ap_ldN (i := 0) rfl rfl rfl hc42 rfl rfl rfl) rfl rfl (did_l rfl) (⟨.inl rfl, ⟨.inl rfl, ⟨.inr trivial, ⟨.inr trivial, ⟨.inr trivial, ⟨.inr trivial, ⟨.inr trivial, ⟨.inr trivial, ⟨.inr trivial, ⟨.inr trivial, ⟨.inr trivial, ⟨.inr trivial, ⟨.inr trivial, ⟨.inr trivial, ⟨.inr trivial, ⟨.inr trivial, ⟨.inr trivial, ⟨.inr trivial, ⟨.inr trivial, ⟨.inr trivial, ⟨.inr trivial, ⟨.inr trivial, ⟨.inr trivial, ⟨.inr trivial, ⟨.inr trivial, ⟨.inr trivial, ⟨.inr trivial, ⟨.inr trivial, ⟨.inr trivial, ⟨.inr trivial, ⟨.inr trivial, ⟨.inr trivial, ⟨.inr trivial, trivial⟩⟩⟩⟩⟩⟩⟩⟩⟩⟩⟩⟩⟩⟩⟩⟩⟩⟩⟩⟩⟩⟩⟩⟩⟩⟩⟩⟩⟩⟩⟩⟩⟩) ?_
    refine fm (.slice ap3 p3.length kp3) rfl rfl rfl ?_
    refine wf_pure (v := (.pointer (some ⟨sB (.slice ap3 p3.length kp3), sO (.slice ap3 p3.length kp3) + 0 * Rp.sz VFnT, none⟩))) (id := .v) (ap_idxV (α := VFnT) (j := 0) rfl rfl rfl rfl (SR.sv hrp3 hs29.log0) (by decide) (by first | omega | (dsimp only; omega) | (simp <;> omega))) rfl rfl (did_v rfl) (okD_v _) ?_
    obtain ⟨cs44, hr44, hc44⟩ := Sv.at (SR.sv hrp3 hs29.log0) (getD_at (x := default) (show 0 < p3.length from by first | omega | (dsimp only; omega) | (simp <;> omega)))
    obtain ⟨a45_2, k45_2, rfl, g45_0, g45_1, s45_2⟩ := hr44
    refine wf_pure (v := (.agg ⟨[(.int .i64 ((p3.getD 0 default).params)), (.int .i64 ((p3.getD 0 default).regs)), (.slice a45_2 ((p3.getD 0 default).blocks).length k45_2)]⟩)) (id := .l (sB (.slice ap3 p3.length kp3))) (ap_ldN (i := 0) rfl rfl rfl hc44 rfl rfl rfl) rfl rfl (did_l rfl) (⟨.inl rfl, ⟨.inl rfl, ⟨.inr trivial, ⟨.inr trivial, ⟨.inr trivial, ⟨.inr trivial, ⟨.inr trivial, ⟨.inr trivial, ⟨.inr trivial, ⟨.inr trivial, ⟨.inr trivial, ⟨.inr trivial, ⟨.inr trivial, ⟨.inr trivial, ⟨.inr trivial, ⟨.inr trivial, ⟨.inr trivial, ⟨.inr trivial, ⟨.inr trivial, ⟨.inr trivial, ⟨.inr trivial, ⟨.inr trivial, ⟨.inr trivial, ⟨.inr trivial, ⟨.inr trivial, ⟨.inr trivial, ⟨.inr trivial, ⟨.inr trivial, ⟨.inr trivial, ⟨.inr trivial, ⟨.inr trivial, ⟨.inr trivial, ⟨.inr trivial, ⟨.inr trivial, ⟨.inr trivial, ⟨.inr trivial, trivial⟩⟩⟩⟩⟩⟩⟩⟩⟩⟩⟩⟩⟩⟩⟩⟩⟩⟩⟩⟩⟩⟩⟩⟩⟩⟩⟩⟩⟩⟩⟩⟩⟩⟩⟩⟩) ?_
    refine fm (.slice ap3 p3.length kp3) rfl rfl rfl ?_
    refine wf_pure (v := (.pointer (some ⟨sB (.slice ap3 p3.length kp3), sO (.slice ap3 p3.length kp3) + 1 * Rp.sz VFnT, none⟩))) (id := .v) (ap_idxV (α := VFnT) (j := 1) rfl rfl rfl rfl (SR.sv hrp3 hs29.log0) (by decide) (by first | omega | (dsimp only; omega) | (simp <;> omega))) rfl rfl (did_v rfl) (okD_v _) ?_
    obtain ⟨cs46, hr46, hc46⟩ := Sv.at (SR.sv hrp3 hs29.log0) (getD_at (x := default) (show 1 < p3.length from by first | omega | (dsimp only; omega) | (simp <;> omega)))
    obtain ⟨a47_2, k47_2, rfl, g47_0, g47_1, s47_2⟩ := hr46
    refine wf_pure (v := (.agg ⟨[(.int .i64 ((p3.getD 1 default).params)), (.int .i64 ((p3.getD 1 default).regs)), (.slice a47_2 ((p3.getD 1 default).blocks).length k47_2)]⟩)) (id := .l (sB (.slice ap3 p3.length kp3))) (ap_ldN (i := 0) rfl rfl rfl hc46 rfl rfl rfl) rfl rfl (did_l rfl) (⟨.inl rfl, ⟨.inl rfl, ⟨.inr trivial, ⟨.inr trivial, ⟨.inr trivial, ⟨.inr trivial, ⟨.inr trivial, ⟨.inr trivial, ⟨.inr trivial, ⟨.inr trivial, ⟨.inr trivial, ⟨.inr trivial, ⟨.inr trivial, ⟨.inr trivial, ⟨.inr trivial, ⟨.inr trivial, ⟨.inr trivial, ⟨.inr trivial, ⟨.inr trivial, ⟨.inr trivial, ⟨.inr trivial, ⟨.inr trivial, ⟨.inr trivial, ⟨.inr trivial, ⟨.inr trivial, ⟨.inr trivial, ⟨.inr trivial, ⟨.inr trivial, ⟨.inr trivial, ⟨.inr trivial, ⟨.inr trivial, ⟨.inr trivial, ⟨.inr trivial, ⟨.inr trivial, ⟨.inr trivial, ⟨.inr trivial, ⟨.inr trivial, ⟨.inr trivial, ⟨.inr trivial, trivial⟩⟩⟩⟩⟩⟩⟩⟩⟩⟩⟩⟩⟩⟩⟩⟩⟩⟩⟩⟩⟩⟩⟩⟩⟩⟩⟩⟩⟩⟩⟩⟩⟩⟩⟩⟩⟩⟩⟩) ?_
    refine wf_rs (id := .a) (rs_lit (α := VFnT) (ps := [(0, (.agg ⟨[(.int .i64 ((p3.getD 0 default).params)), (.int .i64 ((p3.getD 0 default).regs)), (.slice a31_2 ((p3.getD 0 default).blocks).length k31_2)]⟩)), (1, (.agg ⟨[(.int .i64 ((p3.getD 0 default).params)), (.int .i64 ((p3.getD 0 default).regs)), (.slice a33_2 ((p3.getD 0 default).blocks).length k33_2)]⟩)), (2, (.agg ⟨[(.int .i64 ((p3.getD 1 default).params)), (.int .i64 ((p3.getD 1 default).regs)), (.slice a35_2 ((p3.getD 1 default).blocks).length k35_2)]⟩)), (3, (.agg ⟨[(.int .i64 ((p3.getD 0 default).params)), (.int .i64 ((p3.getD 0 default).regs)), (.slice a37_2 ((p3.getD 0 default).blocks).length k37_2)]⟩)), (4, (.agg ⟨[(.int .i64 ((p3.getD 1 default).params)), (.int .i64 ((p3.getD 1 default).regs)), (.slice a39_2 ((p3.getD 1 default).blocks).length k39_2)]⟩)), (5, (.agg ⟨[(.int .i64 ((p3.getD 0 default).params)), (.int .i64 ((p3.getD 0 default).regs)), (.slice a41_2 ((p3.getD 0 default).blocks).length k41_2)]⟩)), (6, (.agg ⟨[(.int .i64 ((p3.getD 1 default).params)), (.int .i64 ((p3.getD 1 default).regs)), (.slice a43_2 ((p3.getD 1 default).blocks).length k43_2)]⟩)), (7, (.agg ⟨[(.int .i64 ((p3.getD 0 default).params)), (.int .i64 ((p3.getD 0 default).regs)), (.slice a45_2 ((p3.getD 0 default).blocks).length k45_2)]⟩)), (8, (.agg ⟨[(.int .i64 ((p3.getD 1 default).params)), (.int .i64 ((p3.getD 1 default).regs)), (.slice a47_2 ((p3.getD 1 default).blocks).length k47_2)]⟩))]) (cells := [(.int .i64 ((p3.getD 0 default).params)), (.int .i64 ((p3.getD 0 default).regs)), (.slice a31_2 ((p3.getD 0 default).blocks).length k31_2), (.int .i64 ((p3.getD 0 default).params)), (.int .i64 ((p3.getD 0 default).regs)), (.slice a33_2 ((p3.getD 0 default).blocks).length k33_2), (.int .i64 ((p3.getD 1 default).params)), (.int .i64 ((p3.getD 1 default).regs)), (.slice a35_2 ((p3.getD 1 default).blocks).length k35_2), (.int .i64 ((p3.getD 0 default).params)), (.int .i64 ((p3.getD 0 default).regs)), (.slice a37_2 ((p3.getD 0 default).blocks).length k37_2), (.int .i64 ((p3.getD 1 default).params)), (.int .i64 ((p3.getD 1 default).regs)), (.slice a39_2 ((p3.getD 1 default).blocks).length k39_2), (.int .i64 ((p3.getD 0 default).params)), (.int .i64 ((p3.getD 0 default).regs)), (.slice a41_2 ((p3.getD 0 default).blocks).length k41_2), (.int .i64 ((p3.getD 1 default).params)), (.int .i64 ((p3.getD 1 default).regs)), (.slice a43_2 ((p3.getD 1 default).blocks).length k43_2), (.int .i64 ((p3.getD 0 default).params)), (.int .i64 ((p3.getD 0 default).regs)), (.slice a45_2 ((p3.getD 0 default).blocks).length k45_2), (.int .i64 ((p3.getD 1 default).params)), (.int .i64 ((p3.getD 1 default).regs)), (.slice a47_2 ((p3.getD 1 default).blocks).length k47_2)]) ([(p3.getD 0 default), (p3.getD 0 default), (p3.getD 1 default), (p3.getD 0 default), (p3.getD 1 default), (p3.getD 0 default), (p3.getD 1 default), (p3.getD 0 default), (p3.getD 1 default)] : List VFnT) hs29.log0 rfl rfl rfl (by kernel_rfl) ⟨[(.int .i64 ((p3.getD 0 default).params)), (.int .i64 ((p3.getD 0 default).regs)), (.slice a31_2 ((p3.getD 0 default).blocks).length k31_2)], [(.int .i64 ((p3.getD 0 default).params)), (.int .i64 ((p3.getD 0 default).regs)), (.slice a33_2 ((p3.getD 0 default).blocks).length k33_2), (.int .i64 ((p3.getD 1 default).params)), (.int .i64 ((p3.getD 1 default).regs)), (.slice a35_2 ((p3.getD 1 default).blocks).length k35_2), (.int .i64 ((p3.getD 0 default).params)), (.int .i64 ((p3.getD 0 default).regs)), (.slice a37_2 ((p3.getD 0 default).blocks).length k37_2), (.int .i64 ((p3.getD 1 default).params)), (.int .i64 ((p3.getD 1 default).regs)), (.slice a39_2 ((p3.getD 1 default).blocks).length k39_2), (.int .i64 ((p3.getD 0 default).params)), (.int .i64 ((p3.getD 0 default).regs)), (.slice a41_2 ((p3.getD 0 default).blocks).length k41_2), (.int .i64 ((p3.getD 1 default).params)), (.int .i64 ((p3.getD 1 default).regs)), (.slice a43_2 ((p3.getD 1 default).blocks).length k43_2), (.int .i64 ((p3.getD 0 default).params)), (.int .i64 ((p3.getD 0 default).regs)), (.slice a45_2 ((p3.getD 0 default).blocks).length k45_2), (.int .i64 ((p3.getD 1 default).params)), (.int .i64 ((p3.getD 1 default).regs)), (.slice a47_2 ((p3.getD 1 default).blocks).length k47_2)], rfl, ⟨a31_2, k31_2, rfl, by first | omega | (dsimp only; omega) | (simp <;> omega), by first | omega | (dsimp only; omega) | (simp <;> omega), s31_2⟩, ⟨[(.int .i64 ((p3.getD 0 default).params)), (.int .i64 ((p3.getD 0 default).regs)), (.slice a33_2 ((p3.getD 0 default).blocks).length k33_2)], [(.int .i64 ((p3.getD 1 default).params)), (.int .i64 ((p3.getD 1 default).regs)), (.slice a35_2 ((p3.getD 1 default).blocks).length k35_2), (.int .i64 ((p3.getD 0 default).params)), (.int .i64 ((p3.getD 0 default).regs)), (.slice a37_2 ((p3.getD 0 default).blocks).length k37_2), (.int .i64 ((p3.getD 1 default).params)), (.int .i64 ((p3.getD 1 default).regs)), (.slice a39_2 ((p3.getD 1 default).blocks).length k39_2), (.int .i64 ((p3.getD 0 default).params)), (.int .i64 ((p3.getD 0 default).regs)), (.slice a41_2 ((p3.getD 0 default).blocks).length k41_2), (.int .i64 ((p3.getD 1 default).params)), (.int .i64 ((p3.getD 1 default).regs)), (.slice a43_2 ((p3.getD 1 default).blocks).length k43_2), (.int .i64 ((p3.getD 0 default).params)), (.int .i64 ((p3.getD 0 default).regs)), (.slice a45_2 ((p3.getD 0 default).blocks).length k45_2), (.int .i64 ((p3.getD 1 default).params)), (.int .i64 ((p3.getD 1 default).regs)), (.slice a47_2 ((p3.getD 1 default).blocks).length k47_2)], rfl, ⟨a33_2, k33_2, rfl, by first | omega | (dsimp only; omega) | (simp <;> omega), by first | omega | (dsimp only; omega) | (simp <;> omega), s33_2⟩, ⟨[(.int .i64 ((p3.getD 1 default).params)), (.int .i64 ((p3.getD 1 default).regs)), (.slice a35_2 ((p3.getD 1 default).blocks).length k35_2)], [(.int .i64 ((p3.getD 0 default).params)), (.int .i64 ((p3.getD 0 default).regs)), (.slice a37_2 ((p3.getD 0 default).blocks).length k37_2), (.int .i64 ((p3.getD 1 default).params)), (.int .i64 ((p3.getD 1 default).regs)), (.slice a39_2 ((p3.getD 1 default).blocks).length k39_2), (.int .i64 ((p3.getD 0 default).params)), (.int .i64 ((p3.getD 0 default).regs)), (.slice a41_2 ((p3.getD 0 default).blocks).length k41_2), (.int .i64 ((p3.getD 1 default).params)), (.int .i64 ((p3.getD 1 default).regs)), (.slice a43_2 ((p3.getD 1 default).blocks).length k43_2), (.int .i64 ((p3.getD 0 default).params)), (.int .i64 ((p3.getD 0 default).regs)), (.slice a45_2 ((p3.getD 0 default).blocks).length k45_2), (.int .i64 ((p3.getD 1 default).params)), (.int .i64 ((p3.getD 1 default).regs)), (.slice a47_2 ((p3.getD 1 default).blocks).length k47_2)], rfl, ⟨a35_2, k35_2, rfl, by first | omega | (dsimp only; omega) | (simp <;> omega), by first | omega | (dsimp only; omega) | (simp <;> omega), s35_2⟩, ⟨[(.int .i64 ((p3.getD 0 default).params)), (.int .i64 ((p3.getD 0 default).regs)), (.slice a37_2 ((p3.getD 0 default).blocks).length k37_2)], [(.int .i64 ((p3.getD 1 default).params)), (.int .i64 ((p3.getD 1 default).regs)), (.slice a39_2 ((p3.getD 1 default).blocks).length k39_2), (.int .i64 ((p3.getD 0 default).params)), (.int .i64 ((p3.getD 0 default).regs)), (.slice a41_2 ((p3.getD 0 default).blocks).length k41_2), (.int .i64 ((p3.getD 1 default).params)), (.int .i64 ((p3.getD 1 default).regs)), (.slice a43_2 ((p3.getD 1 default).blocks).length k43_2), (.int .i64 ((p3.getD 0 default).params)), (.int .i64 ((p3.getD 0 default).regs)), (.slice a45_2 ((p3.getD 0 default).blocks).length k45_2), (.int .i64 ((p3.getD 1 default).params)), (.int .i64 ((p3.getD 1 default).regs)), (.slice a47_2 ((p3.getD 1 default).blocks).length k47_2)], rfl, ⟨a37_2, k37_2, rfl, by first | omega | (dsimp only; omega) | (simp <;> omega), by first | omega | (dsimp only; omega) | (simp <;> omega), s37_2⟩, ⟨[(.int .i64 ((p3.getD 1 default).params)), (.int .i64 ((p3.getD 1 default).regs)), (.slice a39_2 ((p3.getD 1 default).blocks).length k39_2)], [(.int .i64 ((p3.getD 0 default).params)), (.int .i64 ((p3.getD 0 default).regs)), (.slice a41_2 ((p3.getD 0 default).blocks).length k41_2), (.int .i64 ((p3.getD 1 default).params)), (.int .i64 ((p3.getD 1 default).regs)), (.slice a43_2 ((p3.getD 1 default).blocks).length k43_2), (.int .i64 ((p3.getD 0 default).params)), (.int .i64 ((p3.getD 0 default).regs)), (.slice a45_2 ((p3.getD 0 default).blocks).length k45_2), (.int .i64 ((p3.getD 1 default).params)), (.int .i64 ((p3.getD 1 default).regs)), (.slice a47_2 ((p3.getD 1 default).blocks).length k47_2)], rfl, ⟨a39_2, k39_2, rfl, by first | omega | (dsimp only; omega) | (simp <;> omega), by first | omega | (dsimp only; omega) | (simp <;> omega), s39_2⟩, ⟨[(.int .i64 ((p3.getD 0 default).params)), (.int .i64 ((p3.getD 0 default).regs)), (.slice a41_2 ((p3.getD 0 default).blocks).length k41_2)], [(.int .i64 ((p3.getD 1 default).params)), (.int .i64 ((p3.getD 1 default).regs)), (.slice a43_2 ((p3.getD 1 default).blocks).length k43_2), (.int .i64 ((p3.getD 0 default).params)), (.int .i64 ((p3.getD 0 default).regs)), (.slice a45_2 ((p3.getD 0 default).blocks).length k45_2), (.int .i64 ((p3.getD 1 default).params)), (.int .i64 ((p3.getD 1 default).regs)), (.slice a47_2 ((p3.getD 1 default).blocks).length k47_2)], rfl, ⟨a41_2, k41_2, rfl, by first | omega | (dsimp only; omega) | (simp <;> omega), by first | omega | (dsimp only; omega) | (simp <;> omega), s41_2⟩, ⟨[(.int .i64 ((p3.getD 1 default).params)), (.int .i64 ((p3.getD 1 default).regs)), (.slice a43_2 ((p3.getD 1 default).blocks).length k43_2)], [(.int .i64 ((p3.getD 0 default).params)), (.int .i64 ((p3.getD 0 default).regs)), (.slice a45_2 ((p3.getD 0 default).blocks).length k45_2), (.int .i64 ((p3.getD 1 default).params)), (.int .i64 ((p3.getD 1 default).regs)), (.slice a47_2 ((p3.getD 1 default).blocks).length k47_2)], rfl, ⟨a43_2, k43_2, rfl, by first | omega | (dsimp only; omega) | (simp <;> omega), by first | omega | (dsimp only; omega) | (simp <;> omega), s43_2⟩, ⟨[(.int .i64 ((p3.getD 0 default).params)), (.int .i64 ((p3.getD 0 default).regs)), (.slice a45_2 ((p3.getD 0 default).blocks).length k45_2)], [(.int .i64 ((p3.getD 1 default).params)), (.int .i64 ((p3.getD 1 default).regs)), (.slice a47_2 ((p3.getD 1 default).blocks).length k47_2)], rfl, ⟨a45_2, k45_2, rfl, by first | omega | (dsimp only; omega) | (simp <;> omega), by first | omega | (dsimp only; omega) | (simp <;> omega), s45_2⟩, ⟨[(.int .i64 ((p3.getD 1 default).params)), (.int .i64 ((p3.getD 1 default).regs)), (.slice a47_2 ((p3.getD 1 default).blocks).length k47_2)], [], rfl, ⟨a47_2, k47_2, rfl, by first | omega | (dsimp only; omega) | (simp <;> omega), by first | omega | (dsimp only; omega) | (simp <;> omega), s47_2⟩, rfl⟩⟩⟩⟩⟩⟩⟩⟩⟩ rfl) rfl rfl (fun _ _ _ _ => did_a rfl rfl rfl) (⟨.inl rfl, ⟨.inl rfl, ⟨.inl rfl, ⟨.inl rfl, ⟨.inl rfl, ⟨.inl rfl, ⟨.inl rfl, ⟨.inl rfl, ⟨.inl rfl, ⟨.inl rfl, ⟨.inl rfl, ⟨.inl rfl, ⟨.inl rfl, ⟨.inl rfl, ⟨.inl rfl, ⟨.inl rfl, ⟨.inl rfl, ⟨.inl rfl, ⟨.inl rfl, ⟨.inl rfl, ⟨.inl rfl, ⟨.inl rfl, ⟨.inl rfl, ⟨.inl rfl, ⟨.inl rfl, ⟨.inl rfl, ⟨.inl rfl, ⟨.inr trivial, ⟨.inr trivial, ⟨.inr trivial, ⟨.inr trivial, ⟨.inr trivial, ⟨.inr trivial, ⟨.inr trivial, ⟨.inr trivial, ⟨.inr trivial, ⟨.inr trivial, ⟨.inr trivial, ⟨.inr trivial, ⟨.inr trivial, trivial⟩⟩⟩⟩⟩⟩⟩⟩⟩⟩⟩⟩⟩⟩⟩⟩⟩⟩⟩⟩⟩⟩⟩⟩⟩⟩⟩⟩⟩⟩⟩⟩⟩⟩⟩⟩⟩⟩⟩⟩) ?_
    rintro _ H49 p48 ⟨a48, k48, rfl, ho48, hs49, _⟩ lg49 hlg49
    replace hs49 := HS.lg hs49 hs29 hlg49
    generalize ({ H49 with log := lg49 } : Heap) = H49g at hs49 ⊢
    have hs49 : HS _ _ _ [_, _, p48] _ := hs49
    obtain ⟨F50, hF50, hs50, hr50, hp50⟩ := OS.frz ho16 hs49 (i := 0) rfl
    have hs50 : HS _ _ _ [[], _, _] _ := hs50
    replace hT := hT.mono hF50
    replace ho16 := ho16.mono hF50
    replace ho28 := ho28.mono hF50
    replace ho48 := ho48.mono hF50
    replace hq22 := hq22.mono hF50
    replace hq23 := hq23.mono hF50
    replace hrp3 := hrp3.mono hF50
    replace hrq3 := hrq3.mono hF50
    replace lh19_4 := lh19_4.mono hF50
    replace s25_2 := s25_2.mono hF50
    replace s27_2 := s27_2.mono hF50
    replace s31_2 := s31_2.mono hF50
    replace s33_2 := s33_2.mono hF50
    replace s35_2 := s35_2.mono hF50
    replace s37_2 := s37_2.mono hF50
    replace s39_2 := s39_2.mono hF50
    replace s41_2 := s41_2.mono hF50
    replace s43_2 := s43_2.mono hF50
    replace s45_2 := s45_2.mono hF50
    replace s47_2 := s47_2.mono hF50
    obtain ⟨F51, hF51, hs51, hr51, hp51⟩ := OS.frz ho28 hs50 (i := 1) rfl
    have hs51 : HS _ _ _ [_, [], _] _ := hs51
    replace hT := hT.mono hF51
    replace ho28 := ho28.mono hF51
    replace ho48 := ho48.mono hF51
    replace hq22 := hq22.mono hF51
    replace hq23 := hq23.mono hF51
    replace hr50 := hr50.mono hF51
    replace hrp3 := hrp3.mono hF51
    replace hrq3 := hrq3.mono hF51
    replace lh19_4 := lh19_4.mono hF51
    replace s25_2 := s25_2.mono hF51
    replace s27_2 := s27_2.mono hF51
    replace s31_2 := s31_2.mono hF51
    replace s33_2 := s33_2.mono hF51
    replace s35_2 := s35_2.mono hF51
    replace s37_2 := s37_2.mono hF51
    replace s39_2 := s39_2.mono hF51
    replace s41_2 := s41_2.mono hF51
    replace s43_2 := s43_2.mono hF51
    replace s45_2 := s45_2.mono hF51
    replace s47_2 := s47_2.mono hF51
    obtain ⟨F52, hF52, hs52, hr52, hp52⟩ := OS.frz ho48 hs51 (i := 2) rfl
    have hs52 : HS _ _ _ [_, _, []] _ := hs52
    replace hT := hT.mono hF52
    replace ho48 := ho48.mono hF52
    replace hq22 := hq22.mono hF52
    replace hq23 := hq23.mono hF52
    replace hr50 := hr50.mono hF52
    replace hr51 := hr51.mono hF52
    replace hrp3 := hrp3.mono hF52
    replace hrq3 := hrq3.mono hF52
    replace lh19_4 := lh19_4.mono hF52
    replace s25_2 := s25_2.mono hF52
    replace s27_2 := s27_2.mono hF52
    replace s31_2 := s31_2.mono hF52
    replace s33_2 := s33_2.mono hF52
    replace s35_2 := s35_2.mono hF52
    replace s37_2 := s37_2.mono hF52
    replace s39_2 := s39_2.mono hF52
    replace s41_2 := s41_2.mono hF52
    replace s43_2 := s43_2.mono hF52
    replace s45_2 := s45_2.mono hF52
    replace s47_2 := s47_2.mono hF52
    refine wf_rs (id := .a) (rs_lit (α := (List VFnT)) (ps := [(0, (.slice ap3 p3.length kp3)), (1, (.slice a6 p3.length k6)), (2, (.slice a22 (p3.take 1).length k22)), (3, (.slice a23 (p3.drop 1).length k23)), (4, (.slice none 0 0)), (5, (.slice a28 ([(p3.getD 1 default), (p3.getD 0 default)] : List VFnT).length k28)), (6, (.slice a48 ([(p3.getD 0 default), (p3.getD 0 default), (p3.getD 1 default), (p3.getD 0 default), (p3.getD 1 default), (p3.getD 0 default), (p3.getD 1 default), (p3.getD 0 default), (p3.getD 1 default)] : List VFnT).length k48))]) (cells := [(.slice ap3 p3.length kp3), (.slice a6 p3.length k6), (.slice a22 (p3.take 1).length k22), (.slice a23 (p3.drop 1).length k23), (.slice none 0 0), (.slice a28 ([(p3.getD 1 default), (p3.getD 0 default)] : List VFnT).length k28), (.slice a48 ([(p3.getD 0 default), (p3.getD 0 default), (p3.getD 1 default), (p3.getD 0 default), (p3.getD 1 default), (p3.getD 0 default), (p3.getD 1 default), (p3.getD 0 default), (p3.getD 1 default)] : List VFnT).length k48)]) ([p3, p3.set ((pickV at_ (2 : Int)).toNat) x13, p3.take 1, p3.drop 1, ([] : List VFnT), ([(p3.getD 1 default), (p3.getD 0 default)] : List VFnT), ([(p3.getD 0 default), (p3.getD 0 default), (p3.getD 1 default), (p3.getD 0 default), (p3.getD 1 default), (p3.getD 0 default), (p3.getD 1 default), (p3.getD 0 default), (p3.getD 1 default)] : List VFnT)] : List (List VFnT)) hs52.log0 rfl rfl rfl (by kernel_rfl) ⟨[(.slice ap3 p3.length kp3)], [(.slice a6 p3.length k6), (.slice a22 (p3.take 1).length k22), (.slice a23 (p3.drop 1).length k23), (.slice none 0 0), (.slice a28 ([(p3.getD 1 default), (p3.getD 0 default)] : List VFnT).length k28), (.slice a48 ([(p3.getD 0 default), (p3.getD 0 default), (p3.getD 1 default), (p3.getD 0 default), (p3.getD 1 default), (p3.getD 0 default), (p3.getD 1 default), (p3.getD 0 default), (p3.getD 1 default)] : List VFnT).length k48)], rfl, ⟨ap3, kp3, rfl, hrp3⟩, ⟨[(.slice a6 p3.length k6)], [(.slice a22 (p3.take 1).length k22), (.slice a23 (p3.drop 1).length k23), (.slice none 0 0), (.slice a28 ([(p3.getD 1 default), (p3.getD 0 default)] : List VFnT).length k28), (.slice a48 ([(p3.getD 0 default), (p3.getD 0 default), (p3.getD 1 default), (p3.getD 0 default), (p3.getD 1 default), (p3.getD 0 default), (p3.getD 1 default), (p3.getD 0 default), (p3.getD 1 default)] : List VFnT).length k48)], rfl, ⟨a6, k6, by rw [SR.len' hr50], SR.norm hr50⟩, ⟨[(.slice a22 (p3.take 1).length k22)], [(.slice a23 (p3.drop 1).length k23), (.slice none 0 0), (.slice a28 ([(p3.getD 1 default), (p3.getD 0 default)] : List VFnT).length k28), (.slice a48 ([(p3.getD 0 default), (p3.getD 0 default), (p3.getD 1 default), (p3.getD 0 default), (p3.getD 1 default), (p3.getD 0 default), (p3.getD 1 default), (p3.getD 0 default), (p3.getD 1 default)] : List VFnT).length k48)], rfl, ⟨a22, k22, rfl, hq22⟩, ⟨[(.slice a23 (p3.drop 1).length k23)], [(.slice none 0 0), (.slice a28 ([(p3.getD 1 default), (p3.getD 0 default)] : List VFnT).length k28), (.slice a48 ([(p3.getD 0 default), (p3.getD 0 default), (p3.getD 1 default), (p3.getD 0 default), (p3.getD 1 default), (p3.getD 0 default), (p3.getD 1 default), (p3.getD 0 default), (p3.getD 1 default)] : List VFnT).length k48)], rfl, ⟨a23, k23, rfl, hq23⟩, ⟨[(.slice none 0 0)], [(.slice a28 ([(p3.getD 1 default), (p3.getD 0 default)] : List VFnT).length k28), (.slice a48 ([(p3.getD 0 default), (p3.getD 0 default), (p3.getD 1 default), (p3.getD 0 default), (p3.getD 1 default), (p3.getD 0 default), (p3.getD 1 default), (p3.getD 0 default), (p3.getD 1 default)] : List VFnT).length k48)], rfl, ⟨none, 0, rfl, SR.nil⟩, ⟨[(.slice a28 ([(p3.getD 1 default), (p3.getD 0 default)] : List VFnT).length k28)], [(.slice a48 ([(p3.getD 0 default), (p3.getD 0 default), (p3.getD 1 default), (p3.getD 0 default), (p3.getD 1 default), (p3.getD 0 default), (p3.getD 1 default), (p3.getD 0 default), (p3.getD 1 default)] : List VFnT).length k48)], rfl, ⟨a28, k28, rfl, hr51⟩, ⟨[(.slice a48 ([(p3.getD 0 default), (p3.getD 0 default), (p3.getD 1 default), (p3.getD 0 default), (p3.getD 1 default), (p3.getD 0 default), (p3.getD 1 default), (p3.getD 0 default), (p3.getD 1 default)] : List VFnT).length k48)], [], rfl, ⟨a48, k48, rfl, hr52⟩, rfl⟩⟩⟩⟩⟩⟩⟩ rfl) rfl rfl (fun _ _ _ _ => did_a rfl rfl rfl) (⟨.inl rfl, ⟨.inl rfl, ⟨.inl rfl, ⟨.inl rfl, ⟨.inl rfl, ⟨.inl rfl, ⟨.inl rfl, ⟨.inl rfl, ⟨.inl rfl, ⟨.inl rfl, ⟨.inl rfl, ⟨.inl rfl, ⟨.inl rfl, ⟨.inl rfl, ⟨.inl rfl, ⟨.inl rfl, ⟨.inl rfl, ⟨.inl rfl, ⟨.inl rfl, ⟨.inl rfl, ⟨.inl rfl, ⟨.inl rfl, ⟨.inl rfl, ⟨.inl rfl, ⟨.inl rfl, ⟨.inl rfl, ⟨.inl rfl, ⟨.inl rfl, ⟨.inl rfl, ⟨.inl rfl, ⟨.inl rfl, ⟨.inl rfl, ⟨.inl rfl, ⟨.inl rfl, ⟨.inl rfl, ⟨.inl rfl, ⟨.inl rfl, ⟨.inl rfl, ⟨.inl rfl, ⟨.inl rfl, ⟨.inl rfl, trivial⟩⟩⟩⟩⟩⟩⟩⟩⟩⟩⟩⟩⟩⟩⟩⟩⟩⟩⟩⟩⟩⟩⟩⟩⟩⟩⟩⟩⟩⟩⟩⟩⟩⟩⟩⟩⟩⟩⟩⟩⟩) ?_
    rintro _ H54 p53 ⟨a53, k53, rfl, ho53, hs54, _⟩ lg54 hlg54
    replace hs54 := HS.lg hs54 hs52 hlg54
    generalize ({ H54 with log := lg54 } : Heap) = H54g at hs54 ⊢
    have hs54 : HS _ _ _ [_, _, _, p53] _ := hs54
    have ll55 : ([p3, p3.set ((pickV at_ (2 : Int)).toNat) x13, p3.take 1, p3.drop 1, ([] : List VFnT), ([(p3.getD 1 default), (p3.getD 0 default)] : List VFnT), ([(p3.getD 0 default), (p3.getD 0 default), (p3.getD 1 default), (p3.getD 0 default), (p3.getD 1 default), (p3.getD 0 default), (p3.getD 1 default), (p3.getD 0 default), (p3.getD 1 default)] : List VFnT)] : List (List VFnT)).length = 7 := rfl
    refine wf_pure (v := (.int .i64 (([p3, p3.set ((pickV at_ (2 : Int)).toNat) x13, p3.take 1, p3.drop 1, ([] : List VFnT), ([(p3.getD 1 default), (p3.getD 0 default)] : List VFnT), ([(p3.getD 0 default), (p3.getD 0 default), (p3.getD 1 default), (p3.getD 0 default), (p3.getD 1 default), (p3.getD 0 default), (p3.getD 1 default), (p3.getD 0 default), (p3.getD 1 default)] : List VFnT)] : List (List VFnT)).length : Int))) (id := .x []) (ap_lenV (α := (List VFnT)) rfl rfl (OS.sv ho53 hs54.log0 (i := 3) rfl)) rfl rfl (did_x (W := []) rfl rfl fun b hb => absurd hb List.not_mem_nil) (⟨.inl rfl, ⟨.inl rfl, ⟨.inl rfl, ⟨.inl rfl, ⟨.inl rfl, ⟨.inl rfl, ⟨.inl rfl, ⟨.inl rfl, ⟨.inl rfl, ⟨.inl rfl, ⟨.inl rfl, ⟨.inl rfl, ⟨.inl rfl, ⟨.inl rfl, ⟨.inl rfl, ⟨.inl rfl, ⟨.inl rfl, ⟨.inl rfl, ⟨.inl rfl, ⟨.inl rfl, ⟨.inl rfl, ⟨.inl rfl, ⟨.inl rfl, ⟨.inl rfl, ⟨.inl rfl, ⟨.inl rfl, ⟨.inl rfl, ⟨.inl rfl, ⟨.inl rfl, ⟨.inl rfl, ⟨.inl rfl, ⟨.inl rfl, ⟨.inl rfl, ⟨.inl rfl, ⟨.inl rfl, ⟨.inl rfl, ⟨.inl rfl, ⟨.inl rfl, ⟨.inl rfl, ⟨.inl rfl, ⟨.inl rfl, ⟨.inl rfl, trivial⟩⟩⟩⟩⟩⟩⟩⟩⟩⟩⟩⟩⟩⟩⟩⟩⟩⟩⟩⟩⟩⟩⟩⟩⟩⟩⟩⟩⟩⟩⟩⟩⟩⟩⟩⟩⟩⟩⟩⟩⟩⟩) ?_
    refine fm (.int .i64 0) rfl rfl rfl ?_
    refine wf_nil ?_
    refine wk_foc 2 rfl ?_
    refine wk_loop_inv (fun (mm : Nat) f H' => ∃ (i : Nat) (F' : Fz), Fz.le F52 F' ∧ HS (Base.of H []) F' H' [[], [], [], p53] R ∧ agrees f [(4, (.slice la19_4 le.length lk19_4)), (5, (.int .i64 k)), (13, (.slice ap3 p3.length kp3)), (14, (.slice aq3 [3, 2].length kq3)), (87, (.slice a53 ([p3, p3.set ((pickV at_ (2 : Int)).toNat) x13, p3.take 1, p3.drop 1, ([] : List VFnT), ([(p3.getD 1 default), (p3.getD 0 default)] : List VFnT), ([(p3.getD 0 default), (p3.getD 0 default), (p3.getD 1 default), (p3.getD 0 default), (p3.getD 1 default), (p3.getD 0 default), (p3.getD 1 default), (p3.getD 0 default), (p3.getD 1 default)] : List VFnT)] : List (List VFnT)).length k53)), (88, (.int .i64 (([p3, p3.set ((pickV at_ (2 : Int)).toNat) x13, p3.take 1, p3.drop 1, ([] : List VFnT), ([(p3.getD 1 default), (p3.getD 0 default)] : List VFnT), ([(p3.getD 0 default), (p3.getD 0 default), (p3.getD 1 default), (p3.getD 0 default), (p3.getD 1 default), (p3.getD 0 default), (p3.getD 1 default), (p3.getD 0 default), (p3.getD 1 default)] : List VFnT)] : List (List VFnT)).length : Int))), (89, (.int .i64 (i : Int)))] ∧ mm = 7 - i ∧ (i ≤ 7)) _ ⟨0, _, (Fz.le_refl _), hs54, (agC rfl (agC rfl (agC rfl (agC rfl (agC rfl (agC rfl (agC rfl agN))))))), rfl, (by first | assumption | omega | (simp at *; omega))⟩ ?_
    rintro mm56 f56 H56 ⟨i, F56, hF56, hs56, hf56, rfl, hi⟩ ih56
    refine wk_canon _ hf56 (fun gg56 => ?_)
    clear hf56
    replace hT := hT.mono hF56
    replace ho53 := ho53.mono hF56
    replace hrp3 := hrp3.mono hF56
    replace hrq3 := hrq3.mono hF56
    replace lh19_4 := lh19_4.mono hF56
    have hB := bd_7 (bd_p h_) (bd_set (k := (pickV at_ 2).toNat) (bd_p h_) (by assumption))
    refine wk_foc 1 rfl ?_
    refine wr 2 [] 90 90 [] [(90, (.bool (decide ((i : Int) < (([p3, p3.set ((pickV at_ (2 : Int)).toNat) x13, p3.take 1, p3.drop 1, ([] : List VFnT), ([(p3.getD 1 default), (p3.getD 0 default)] : List VFnT), ([(p3.getD 0 default), (p3.getD 0 default), (p3.getD 1 default), (p3.getD 0 default), (p3.getD 1 default), (p3.getD 0 default), (p3.getD 1 default), (p3.getD 0 default), (p3.getD 1 default)] : List VFnT)] : List (List VFnT)).length : Int)))))] trivial (by kernel_rfl) rfl fun gg57 => ?_
    refine wk_if 4 5 (v := (decide ((i : Int) < (([p3, p3.set ((pickV at_ (2 : Int)).toNat) x13, p3.take 1, p3.drop 1, ([] : List VFnT), ([(p3.getD 1 default), (p3.getD 0 default)] : List VFnT), ([(p3.getD 0 default), (p3.getD 0 default), (p3.getD 1 default), (p3.getD 0 default), (p3.getD 1 default), (p3.getD 0 default), (p3.getD 1 default), (p3.getD 0 default), (p3.getD 1 default)] : List VFnT)] : List (List VFnT)).length : Int)))) rfl rfl rfl rfl (fun c58b => ?_) (fun c58b => ?_)
    · have c58 := c58b
      try simp only [BS] at c58
      obtain ⟨cf59, hv59⟩ := Sv.view (OS.sv ho53 hs56 (i := 3) rfl)
      have s60 := fL (hv59 i)
      refine wr 2 [(1, .o (.slice (cA (cf59 i) 0) (([p3, p3.set ((pickV at_ (2 : Int)).toNat) x13, p3.take 1, p3.drop 1, ([] : List VFnT), ([(p3.getD 1 default), (p3.getD 0 default)] : List VFnT), ([(p3.getD 0 default), (p3.getD 0 default), (p3.getD 1 default), (p3.getD 0 default), (p3.getD 1 default), (p3.getD 0 default), (p3.getD 1 default), (p3.getD 0 default), (p3.getD 1 default)] : List VFnT)] : List (List VFnT)).getD i default).length (cK (cf59 i) 0)))] 91 92 [17] [(17, (.slice (cA (cf59 i) 0) (([p3, p3.set ((pickV at_ (2 : Int)).toNat) x13, p3.take 1, p3.drop 1, ([] : List VFnT), ([(p3.getD 1 default), (p3.getD 0 default)] : List VFnT), ([(p3.getD 0 default), (p3.getD 0 default), (p3.getD 1 default), (p3.getD 0 default), (p3.getD 1 default), (p3.getD 0 default), (p3.getD 1 default), (p3.getD 0 default), (p3.getD 1 default)] : List VFnT)] : List (List VFnT)).getD i default).length (cK (cf59 i) 0)))] (vA (Sv.ix (j := (i : Int)) (OS.sv ho53 hs56 (i := 3) rfl) (by first | omega | (dsimp only; omega) | (simp <;> omega)) (show (i : Int) < (7 : Int) from by first | omega | (dsimp only; omega) | (simp <;> omega))) (vA (ql 30 0 (vL (hv59 i) (show i < 7 from by first | omega | (dsimp only; omega) | (simp <;> omega))) rfl rfl) trivial)) (by kernel_rfl) rfl fun gg61 => ?_
      refine wk_region ?_
      have fq62 := pick_imp k (20 : Int)
      refine wro 5 0 [(3, .o (.int .i64 (pickV k (20 : Int))))] 93 97 [] [(93, (.slice aq3 [3, 2].length kq3)), (94, (.slice la19_4 le.length lk19_4)), (97, (.int .i64 ((pickV k (20 : Int)) - 1)))] (vA (m1.pick_c_q 38 k (20) H56 (by first | omega | (dsimp only; omega) | (simp <;> omega))) (vA (vi (n := (pickV k (20 : Int)) - 1) (by first | omega | (dsimp only; omega) | (simp <;> omega))) trivial)) (by kernel_rfl) rfl fun gg63 => ?_
      refine wo_rs (rs_lit (α := Int) (ps := [(0, (.int .i64 3)), (1, (.int .i64 ((pickV k (20 : Int)) - 1)))]) (cells := [(.int .i64 3), (.int .i64 ((pickV k (20 : Int)) - 1))]) ([3, (pickV k (20 : Int)) - 1] : List Int) hs56 rfl rfl rfl (by kernel_rfl) ⟨[(.int .i64 3)], [(.int .i64 ((pickV k (20 : Int)) - 1))], rfl, ⟨rfl, by first | omega | (dsimp only; omega) | (simp <;> omega)⟩, ⟨[(.int .i64 ((pickV k (20 : Int)) - 1))], [], rfl, ⟨rfl, by first | omega | (dsimp only; omega) | (simp <;> omega)⟩, rfl⟩⟩ rfl) rfl rfl ?_
      rintro _ H65 p64 ⟨a64, k64, rfl, ho64, hs65, _⟩
      have hs65 : HS _ _ _ [_, _, _, _, p64] _ := hs65
      obtain ⟨F66, hF66, hs66, hr66, hp66⟩ := OS.frz ho64 hs65 (i := 4) rfl
      have hs66 : HS _ _ _ [_, _, _, _, []] _ := hs66
      replace hT := hT.mono hF66
      replace ho53 := ho53.mono hF66
      replace ho64 := ho64.mono hF66
      replace hrp3 := hrp3.mono hF66
      replace hrq3 := hrq3.mono hF66
      replace lh19_4 := lh19_4.mono hF66
      replace s60 := s60.mono hF66
      refine wo_rs (rs_lit (α := (List Int)) (ps := [(0, (.slice aq3 [3, 2].length kq3)), (1, (.slice la19_4 le.length lk19_4)), (2, (.slice none 0 0)), (3, (.slice a64 ([3, (pickV k (20 : Int)) - 1] : List Int).length k64))]) (cells := [(.slice aq3 [3, 2].length kq3), (.slice la19_4 le.length lk19_4), (.slice none 0 0), (.slice a64 ([3, (pickV k (20 : Int)) - 1] : List Int).length k64)]) ([[3, 2], le, ([] : List Int), ([3, (pickV k (20 : Int)) - 1] : List Int)] : List (List Int)) hs66 rfl rfl rfl (by kernel_rfl) ⟨[(.slice aq3 [3, 2].length kq3)], [(.slice la19_4 le.length lk19_4), (.slice none 0 0), (.slice a64 ([3, (pickV k (20 : Int)) - 1] : List Int).length k64)], rfl, ⟨aq3, kq3, rfl, hrq3⟩, ⟨[(.slice la19_4 le.length lk19_4)], [(.slice none 0 0), (.slice a64 ([3, (pickV k (20 : Int)) - 1] : List Int).length k64)], rfl, ⟨la19_4, lk19_4, rfl, lh19_4⟩, ⟨[(.slice none 0 0)], [(.slice a64 ([3, (pickV k (20 : Int)) - 1] : List Int).length k64)], rfl, ⟨none, 0, rfl, SR.nil⟩, ⟨[(.slice a64 ([3, (pickV k (20 : Int)) - 1] : List Int).length k64)], [], rfl, ⟨a64, k64, rfl, hr66⟩, rfl⟩⟩⟩⟩ rfl) rfl rfl ?_
      rintro _ H68 p67 ⟨a67, k67, rfl, ho67, hs68, _⟩
      have hs68 : HS _ _ _ [_, _, _, _, _, p67] _ := hs68
      refine wro 2 7 [] 100 101 [] [(100, (.int .i64 4)), (101, (.int .i64 0))] trivial (by kernel_rfl) rfl fun gg69 => ?_
      refine wo_end 2 rfl ?_
      refine wk_loop_inv (fun (mm : Nat) f H' => ∃ (j : Nat) (F' : Fz), Fz.le F66 F' ∧ HS (Base.of H []) F' H' [[], [], [], p53, [], p67] R ∧ agrees f [(4, (.slice la19_4 le.length lk19_4)), (5, (.int .i64 k)), (13, (.slice ap3 p3.length kp3)), (14, (.slice aq3 [3, 2].length kq3)), (17, (.slice (cA (cf59 i) 0) (([p3, p3.set ((pickV at_ (2 : Int)).toNat) x13, p3.take 1, p3.drop 1, ([] : List VFnT), ([(p3.getD 1 default), (p3.getD 0 default)] : List VFnT), ([(p3.getD 0 default), (p3.getD 0 default), (p3.getD 1 default), (p3.getD 0 default), (p3.getD 1 default), (p3.getD 0 default), (p3.getD 1 default), (p3.getD 0 default), (p3.getD 1 default)] : List VFnT)] : List (List VFnT)).getD i default).length (cK (cf59 i) 0))), (87, (.slice a53 ([p3, p3.set ((pickV at_ (2 : Int)).toNat) x13, p3.take 1, p3.drop 1, ([] : List VFnT), ([(p3.getD 1 default), (p3.getD 0 default)] : List VFnT), ([(p3.getD 0 default), (p3.getD 0 default), (p3.getD 1 default), (p3.getD 0 default), (p3.getD 1 default), (p3.getD 0 default), (p3.getD 1 default), (p3.getD 0 default), (p3.getD 1 default)] : List VFnT)] : List (List VFnT)).length k53)), (88, (.int .i64 (([p3, p3.set ((pickV at_ (2 : Int)).toNat) x13, p3.take 1, p3.drop 1, ([] : List VFnT), ([(p3.getD 1 default), (p3.getD 0 default)] : List VFnT), ([(p3.getD 0 default), (p3.getD 0 default), (p3.getD 1 default), (p3.getD 0 default), (p3.getD 1 default), (p3.getD 0 default), (p3.getD 1 default), (p3.getD 0 default), (p3.getD 1 default)] : List VFnT)] : List (List VFnT)).length : Int))), (89, (.int .i64 (i : Int))), (90, (.bool (decide ((i : Int) < (([p3, p3.set ((pickV at_ (2 : Int)).toNat) x13, p3.take 1, p3.drop 1, ([] : List VFnT), ([(p3.getD 1 default), (p3.getD 0 default)] : List VFnT), ([(p3.getD 0 default), (p3.getD 0 default), (p3.getD 1 default), (p3.getD 0 default), (p3.getD 1 default), (p3.getD 0 default), (p3.getD 1 default), (p3.getD 0 default), (p3.getD 1 default)] : List VFnT)] : List (List VFnT)).length : Int))))), (93, (.slice aq3 [3, 2].length kq3)), (94, (.slice la19_4 le.length lk19_4)), (97, (.int .i64 ((pickV k (20 : Int)) - 1))), (98, (.slice a64 ([3, (pickV k (20 : Int)) - 1] : List Int).length k64)), (99, (.slice a67 ([[3, 2], le, ([] : List Int), ([3, (pickV k (20 : Int)) - 1] : List Int)] : List (List Int)).length k67)), (100, (.int .i64 4)), (101, (.int .i64 (j : Int)))] ∧ mm = 4 - j ∧ (j ≤ 4)) _ ⟨0, _, (Fz.le_refl _), hs68, (agC rfl (agC rfl (agC rfl (agC rfl (agC rfl (agC rfl (agC rfl (agC rfl (agC rfl (agC rfl (agC rfl (agC rfl (agC rfl (agC rfl (agC rfl (agC rfl agN)))))))))))))))), rfl, (by first | assumption | omega | (simp at *; omega))⟩ ?_
      rintro mm70 f70 H70 ⟨j, F70, hF70, hs70, hf70, rfl, hj⟩ ih70
      refine wk_canon _ hf70 (fun gg70 => ?_)
      clear hf70
      replace hT := hT.mono hF70
      replace ho53 := ho53.mono hF70
      replace ho67 := ho67.mono hF70
      replace hr66 := hr66.mono hF70
      replace hrp3 := hrp3.mono hF70
      replace hrq3 := hrq3.mono hF70
      replace lh19_4 := lh19_4.mono hF70
      replace s60 := s60.mono hF70
      have hB2 := len_4 (a := 3) (b := pickV k 20 - 1) hle
      refine wk_foc 1 rfl ?_
      refine wr 2 [] 102 102 [] [(102, (.bool (decide ((j : Int) < 4))))] trivial (by kernel_rfl) rfl fun gg71 => ?_
      refine wk_if 4 5 (v := (decide ((j : Int) < 4))) rfl rfl rfl rfl (fun c72b => ?_) (fun c72b => ?_)
      · have c72 := c72b
        try simp only [BS] at c72
        obtain ⟨cf73, hv73⟩ := Sv.view (OS.sv ho67 hs70 (i := 5) rfl)
        have s74 := fL (hv73 j)
        refine wr 2 [(1, .o (.slice (cA (cf73 j) 0) (([[3, 2], le, ([] : List Int), ([3, (pickV k (20 : Int)) - 1] : List Int)] : List (List Int)).getD j default).length (cK (cf73 j) 0)))] 103 104 [19] [(19, (.slice (cA (cf73 j) 0) (([[3, 2], le, ([] : List Int), ([3, (pickV k (20 : Int)) - 1] : List Int)] : List (List Int)).getD j default).length (cK (cf73 j) 0)))] (vA (Sv.ix (j := (j : Int)) (OS.sv ho67 hs70 (i := 5) rfl) (by first | omega | (dsimp only; omega) | (simp <;> omega)) (show (j : Int) < (4 : Int) from by first | omega | (dsimp only; omega) | (simp <;> omega))) (vA (ql 25 0 (vL (hv73 j) (show j < 4 from by first | omega | (dsimp only; omega) | (simp <;> omega))) rfl rfl) trivial)) (by kernel_rfl) rfl fun gg75 => ?_
        refine wk_region ?_
        refine wro 2 0 [] 105 106 [] [(105, (.slice (cA (cf59 i) 0) (([p3, p3.set ((pickV at_ (2 : Int)).toNat) x13, p3.take 1, p3.drop 1, ([] : List VFnT), ([(p3.getD 1 default), (p3.getD 0 default)] : List VFnT), ([(p3.getD 0 default), (p3.getD 0 default), (p3.getD 1 default), (p3.getD 0 default), (p3.getD 1 default), (p3.getD 0 default), (p3.getD 1 default), (p3.getD 0 default), (p3.getD 1 default)] : List VFnT)] : List (List VFnT)).getD i default).length (cK (cf59 i) 0))), (106, (.slice (cA (cf73 j) 0) (([[3, 2], le, ([] : List Int), ([3, (pickV k (20 : Int)) - 1] : List Int)] : List (List Int)).getD j default).length (cK (cf73 j) 0)))] trivial (by kernel_rfl) rfl fun gg76 => ?_
        refine wo_call (ap_call rfl rfl rfl) rfl rfl (m8.vprog_c 38 (([p3, p3.set ((pickV at_ (2 : Int)).toNat) x13, p3.take 1, p3.drop 1, ([] : List VFnT), ([(p3.getD 1 default), (p3.getD 0 default)] : List VFnT), ([(p3.getD 0 default), (p3.getD 0 default), (p3.getD 1 default), (p3.getD 0 default), (p3.getD 1 default), (p3.getD 0 default), (p3.getD 1 default), (p3.getD 0 default), (p3.getD 1 default)] : List VFnT)] : List (List VFnT)).getD i default) (([[3, 2], le, ([] : List Int), ([3, (pickV k (20 : Int)) - 1] : List Int)] : List (List Int)).getD j default) (HS.call hs70) s60 s74 hT (by first | exact ⟨by first | omega | exact Nat.le_trans (len_at hB2 _) (by omega) | (simp; done), fun k j => Nat.le_trans (bdP_at hB _ k j) (by omega)⟩ | exact ⟨by simp, fun k j => Nat.le_trans (bd_p h_ k j) (by omega)⟩)) ?_
        rintro _ H77 ⟨r77, F77, hF77, hs77, rfl, rfl⟩
        replace hs77 := HS.back hs70 rfl hs77
        have hs77 : HS _ _ _ [_, _, _, _, _, _] _ := hs77
        replace hT := hT.mono hF77
        replace ho53 := ho53.mono hF77
        replace ho67 := ho67.mono hF77
        replace hr66 := hr66.mono hF77
        replace hrp3 := hrp3.mono hF77
        replace hrq3 := hrq3.mono hF77
        replace lh19_4 := lh19_4.mono hF77
        replace s60 := s60.mono hF77
        replace s74 := s74.mono hF77
        refine wro 2 3 [] 108 109 [] [(108, (.slice (cA (cf59 i) 0) (([p3, p3.set ((pickV at_ (2 : Int)).toNat) x13, p3.take 1, p3.drop 1, ([] : List VFnT), ([(p3.getD 1 default), (p3.getD 0 default)] : List VFnT), ([(p3.getD 0 default), (p3.getD 0 default), (p3.getD 1 default), (p3.getD 0 default), (p3.getD 1 default), (p3.getD 0 default), (p3.getD 1 default), (p3.getD 0 default), (p3.getD 1 default)] : List VFnT)] : List (List VFnT)).getD i default).length (cK (cf59 i) 0))), (109, (.slice (cA (cf73 j) 0) (([[3, 2], le, ([] : List Int), ([3, (pickV k (20 : Int)) - 1] : List Int)] : List (List Int)).getD j default).length (cK (cf73 j) 0)))] trivial (by kernel_rfl) rfl fun gg78 => ?_
        refine wo_call (ap_call rfl rfl rfl) rfl rfl (m8.rprog_c 38 (([p3, p3.set ((pickV at_ (2 : Int)).toNat) x13, p3.take 1, p3.drop 1, ([] : List VFnT), ([(p3.getD 1 default), (p3.getD 0 default)] : List VFnT), ([(p3.getD 0 default), (p3.getD 0 default), (p3.getD 1 default), (p3.getD 0 default), (p3.getD 1 default), (p3.getD 0 default), (p3.getD 1 default), (p3.getD 0 default), (p3.getD 1 default)] : List VFnT)] : List (List VFnT)).getD i default) (([[3, 2], le, ([] : List Int), ([3, (pickV k (20 : Int)) - 1] : List Int)] : List (List Int)).getD j default) (HS.call hs77) s60 s74 hT (by first | exact ⟨by first | omega | exact Nat.le_trans (len_at hB2 _) (by omega) | (simp; done), fun k j => Nat.le_trans (bdP_at hB _ k j) (by omega)⟩ | exact ⟨by simp, fun k j => Nat.le_trans (bd_p h_ k j) (by omega)⟩)) ?_
        rintro _ H79 ⟨r79, F79, hF79, hs79, rfl, rfl⟩
        replace hs79 := HS.back hs77 rfl hs79
        have hs79 : HS _ _ _ [_, _, _, _, _, _] _ := hs79
        replace hT := hT.mono hF79
        replace ho53 := ho53.mono hF79
        replace ho67 := ho67.mono hF79
        replace hr66 := hr66.mono hF79
        replace hrp3 := hrp3.mono hF79
        replace hrq3 := hrq3.mono hF79
        replace lh19_4 := lh19_4.mono hF79
        replace s60 := s60.mono hF79
        replace s74 := s74.mono hF79
        refine wro 1 6 [] 111 111 [] [(111, (.bool (vpV (([p3, p3.set ((pickV at_ (2 : Int)).toNat) x13, p3.take 1, p3.drop 1, ([] : List VFnT), ([(p3.getD 1 default), (p3.getD 0 default)] : List VFnT), ([(p3.getD 0 default), (p3.getD 0 default), (p3.getD 1 default), (p3.getD 0 default), (p3.getD 1 default), (p3.getD 0 default), (p3.getD 1 default), (p3.getD 0 default), (p3.getD 1 default)] : List VFnT)] : List (List VFnT)).getD i default) (([[3, 2], le, ([] : List Int), ([3, (pickV k (20 : Int)) - 1] : List Int)] : List (List Int)).getD j default) != vpV (([p3, p3.set ((pickV at_ (2 : Int)).toNat) x13, p3.take 1, p3.drop 1, ([] : List VFnT), ([(p3.getD 1 default), (p3.getD 0 default)] : List VFnT), ([(p3.getD 0 default), (p3.getD 0 default), (p3.getD 1 default), (p3.getD 0 default), (p3.getD 1 default), (p3.getD 0 default), (p3.getD 1 default), (p3.getD 0 default), (p3.getD 1 default)] : List VFnT)] : List (List VFnT)).getD i default) (([[3, 2], le, ([] : List Int), ([3, (pickV k (20 : Int)) - 1] : List Int)] : List (List Int)).getD j default))))] trivial (by kernel_rfl) rfl fun gg80 => ?_
        refine wo_end 1 rfl ?_
        refine wk_iff 2 (v := (vpV (([p3, p3.set ((pickV at_ (2 : Int)).toNat) x13, p3.take 1, p3.drop 1, ([] : List VFnT), ([(p3.getD 1 default), (p3.getD 0 default)] : List VFnT), ([(p3.getD 0 default), (p3.getD 0 default), (p3.getD 1 default), (p3.getD 0 default), (p3.getD 1 default), (p3.getD 0 default), (p3.getD 1 default), (p3.getD 0 default), (p3.getD 1 default)] : List VFnT)] : List (List VFnT)).getD i default) (([[3, 2], le, ([] : List Int), ([3, (pickV k (20 : Int)) - 1] : List Int)] : List (List Int)).getD j default) != vpV (([p3, p3.set ((pickV at_ (2 : Int)).toNat) x13, p3.take 1, p3.drop 1, ([] : List VFnT), ([(p3.getD 1 default), (p3.getD 0 default)] : List VFnT), ([(p3.getD 0 default), (p3.getD 0 default), (p3.getD 1 default), (p3.getD 0 default), (p3.getD 1 default), (p3.getD 0 default), (p3.getD 1 default), (p3.getD 0 default), (p3.getD 1 default)] : List VFnT)] : List (List VFnT)).getD i default) (([[3, 2], le, ([] : List Int), ([3, (pickV k (20 : Int)) - 1] : List Int)] : List (List Int)).getD j default))) rfl (by simp) rfl rfl ?_
        refine wr 1 [] 101 101 [112] [(101, (.int .i64 ((j : Int) + 1)))] (vA (vi (n := (j : Int) + 1) (by first | omega | (dsimp only; omega) | (simp <;> omega))) trivial) (by kernel_rfl) rfl fun gg81 => ?_
        refine ih70 _ _ _ ?_ ⟨j + 1, _, (Fz.le_trans (Fz.le_trans (hF70) hF77) hF79), hs79, (agC rfl (agC rfl (agC rfl (agC rfl (agC rfl (agC rfl (agC rfl (agC rfl (agC rfl (agC rfl (agC rfl (agC rfl (agC rfl (agC rfl (agC rfl (agC rfl agN)))))))))))))))), rfl, (by first | assumption | omega | (simp at *; omega))⟩
        omega
      · have c72 := c72b
        try simp only [BS] at c72
        refine wr 1 [] 89 89 [113] [(89, (.int .i64 ((i : Int) + 1)))] (vA (vi (n := (i : Int) + 1) (by first | omega | (dsimp only; omega) | (simp <;> omega))) trivial) (by kernel_rfl) rfl fun gg82 => ?_
        refine ih56 _ _ _ ?_ ⟨i + 1, _, (Fz.le_trans (Fz.le_trans (hF56) hF66) hF70), (HS.sub hs70 (List.sublist_append_left _ _)), (agC rfl (agC rfl (agC rfl (agC rfl (agC rfl (agC rfl (agC rfl agN))))))), rfl, (by first | assumption | omega | (simp at *; omega))⟩
        omega
    · have c58 := c58b
      try simp only [BS] at c58
      refine wk_region ?_
      refine wro 2 0 [] 114 115 [] [(114, (.slice ap3 p3.length kp3)), (115, (.slice aq3 [3, 2].length kq3))] trivial (by kernel_rfl) rfl fun gg83 => ?_
      refine wo_call (ap_call rfl rfl rfl) rfl rfl (m8.vprog_c 38 p3 [3, 2] (HS.call hs56) hrp3 hrq3 hT (by first | exact ⟨by first | omega | exact Nat.le_trans (len_at hB2 _) (by omega) | (simp; done), fun k j => Nat.le_trans (bdP_at hB _ k j) (by omega)⟩ | exact ⟨by simp, fun k j => Nat.le_trans (bd_p h_ k j) (by omega)⟩)) ?_
      rintro _ H84 ⟨r84, F84, hF84, hs84, rfl, rfl⟩
      replace hs84 := HS.back hs56 rfl hs84
      have hs84 : HS _ _ _ [_, _, _, _] _ := hs84
      replace hT := hT.mono hF84
      replace ho53 := ho53.mono hF84
      replace hrp3 := hrp3.mono hF84
      replace hrq3 := hrq3.mono hF84
      replace lh19_4 := lh19_4.mono hF84
      refine wro 4 3 [(4, .o (.bool true))] 117 119 [12] [(12, (.bool (vpV p3 [3, 2] && true)))] (vA (fun (g1 : (vpV p3 [3, 2]) = true) => (ex_c_q 38 (HS.call hs84) hT)) trivial) (by kernel_rfl) rfl fun gg85 => ?_
      refine wo_end 1 rfl ?_
      refine wk_ret ⟨.inr rfl, _, rfl, (vpV p3 [3, 2] && true), _, (Fz.le_trans (Fz.le_trans (Fz.le_trans (Fz.le_trans (Fz.le_trans (Fz.le_trans (Fz.le_trans (hF3) hF13) hF19) hF50) hF51) hF52) hF56) hF84), (HS.forget hs84), rfl, (by first | (rw [vp_good h_]; rfl) | rfl)⟩
end Go.Proofs.YtlabedbmgmfbaaaDoor.lp
