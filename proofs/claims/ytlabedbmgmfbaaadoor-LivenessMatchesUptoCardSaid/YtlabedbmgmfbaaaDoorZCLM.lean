/-
 The law on live registers and their reference, by a symbolic run. No condition but that the table lies as laid and a bound on lengths.
-/
import Derived.Test.YtlabedbmgmfbaaaDoorZCMJ
import Derived.Test.YtlabedbmgmfbaaaDoorZCM9
import Derived.Test.YtlabedbmgmfbaaaDoorZCME
noncomputable section
namespace Go.Proofs.YtlabedbmgmfbaaaDoor.lm
open Go.R
set_option maxRecDepth 10000
set_option linter.unusedVariables false
open m1 m2 m3 m4 m5 m6 m9 ma ml mb mc md mf mg mh mi mj me
theorem vfG.oki {x : VFnT} {n : Int} (h : vfG x n) (j : Nat) : okI 6 (x.blocks.getD j default).ins := by
 refine ⟨Nat.le_trans (h.ins j) (by omega), fun z hz => ?_⟩
 have hv := h.val
 unfold b8 at hv
 rw [Bool.and_eq_true] at hv
 rcases Nat.lt_or_ge j x.blocks.length with hj | hj
 ·
  have hb := all_at hv.2 hj
  unfold kY at hb
  rw [Bool.and_eq_true] at hb
  have A := List.all_eq_true.1 hb.1 z hz
  unfold eu at A
  simp only [Bool.and_eq_true, decide_eq_true_eq] at A
  omega
 ·
  rw [cm hj] at hz; cases hz
theorem oki_up {m n : Nat} {y : List VInT} (h : okI m y) (hm : m ≤ n) : okI n y := ⟨h.1, fun z hz => Nat.le_trans (h.2 z hz) hm⟩
def rowsB (x : List (List Int)) (m : Nat) : Prop := x.length ≤ m ∧ ∀ j, (x.getD j default).length ≤ 3000
theorem kH {x y : List (List Int)} (hl : x.length = y.length) (h : ∀ j, j < x.length → x.getD j default = y.getD j default) : x = y := by
 apply List.ext_getElem hl
 intro j z A
 have := h j z
 rwa [List.getD_eq_getElem?_getD, List.getD_eq_getElem?_getD, List.getElem?_eq_getElem z, List.getElem?_eq_getElem A] at this
theorem i4 {m : Nat} : rowsB [] m := ⟨Nat.zero_le _, fun j => Nat.zero_le _⟩
theorem bk_same {c : VFnT} {x y p q : List (List Int)} (z : b8 c = true → BkF c x y) (h0 : b8 c = false → x = [] ∧ y = []) (k1 : b8 c = true → BkF c p q) (J : b8 c = false → p = [] ∧ q = []) : (x = p ∧ y = q) ∧ rowsB x 1000 ∧ rowsB y 1000 := by
 cases hv : b8 c with
 | false =>
  obtain ⟨rfl, rfl⟩ := h0 hv
  obtain ⟨rfl, rfl⟩ := J hv
  exact ⟨⟨rfl, rfl⟩, i4, i4⟩
 | true =>
  have v := jF hv
  have hr := v.regs
  have hn := v.nb
  have z := z hv
  have k1 := k1 hv
  have A : ∀ j, j < c.blocks.length → x.getD j default = p.getD j default := fun j hj => Lst.uniq (z.hx j hj) (k1.hx j hj) fun r => Iff.rfl
  have E : ∀ j, j < c.blocks.length → y.getD j default = q.getD j default := fun j hj => Lst.uniq (z.hy j hj) (k1.hy j hj) fun r => Iff.rfl
  refine ⟨⟨kH (by rw [z.lx, k1.lx]) fun j hj => A j (by rw [← z.lx]; exact hj), kH (by rw [z.ly, k1.ly]) fun j hj => E j (by rw [← z.ly]; exact hj)⟩, ⟨by rw [z.lx]; omega, fun j => ?_⟩, ⟨by rw [z.ly]; omega, fun j => ?_⟩⟩
  ·
   rcases Nat.lt_or_ge j c.blocks.length with hj | hj
   ·
    have := Lst.len (z.hx j hj) hr.1 (fun r h => lin_lt v h); omega
   ·
    rw [cm (by rw [z.lx]; exact hj)]; exact Nat.zero_le _
  ·
   rcases Nat.lt_or_ge j c.blocks.length with hj | hj
   ·
    have := Lst.len (z.hy j hj) hr.1 (fun r h => gL v h); omega
   ·
    rw [cm (by rw [z.ly]; exact hj)]; exact Nat.zero_le _
theorem ac_same {c : VFnT} {x y : List Int} (z : b8 c = true → Lst x (acS c)) (h0 : b8 c = false → x = []) (k1 : b8 c = true → Lst y (acS c)) (A : b8 c = false → y = []) : x = y ∧ x.length ≤ 3000 := by
 cases hv : b8 c with
 | false => rw [h0 hv, A hv]; exact ⟨rfl, Nat.zero_le _⟩
 | true =>
  have v := jF hv
  have hr := v.regs
  refine ⟨Lst.uniq (z hv) (k1 hv) fun r => Iff.rfl, ?_⟩
  have := Lst.len (z hv) hr.1 fun r h => ack_lt v (Nat.le_refl _) h
  omega
theorem cu {c : VFnT} {b : Int} {x y : List (List Int)} (hi : ∀ j, (c.blocks.getD j default).ins.length ≤ 1073741823) (z : b8 c = true → 0 ≤ b → b < (c.blocks.length : Int) → PtF c b.toNat x) (h0 : (b8 c = false ∨ b < 0 ∨ (c.blocks.length : Int) ≤ b) → x = []) (k1 : b8 c = true → 0 ≤ b → b < (c.blocks.length : Int) → PtF c b.toNat y) (T : (b8 c = false ∨ b < 0 ∨ (c.blocks.length : Int) ≤ b) → y = []) : x = y ∧ rowsB x 1073741824 := by
 by_cases hb : b8 c = true ∧ 0 ≤ b ∧ b < (c.blocks.length : Int)
 ·
  obtain ⟨hv, A, E⟩ := hb
  have v := jF hv
  have hr := v.regs
  have z := z hv A E
  have k1 := k1 hv A E
  have hn : b.toNat < c.blocks.length := by omega
  refine ⟨kH (by rw [z.len, k1.len]) fun j hj => Lst.uniq (z.pt j (by have := z.len; omega)) (k1.pt j (by have := z.len; omega)) fun r => Iff.rfl, ?_, fun j => ?_⟩
  ·
   rw [z.len]; have := hi b.toNat; show (c.blocks.getD b.toNat default).ins.length + 1 ≤ _; omega
  ·
   rcases Nat.lt_or_ge j x.length with hj | hj
   ·
    have := Lst.len (z.pt j (by have := z.len; omega)) hr.1 (fun r h => pt_lt v hn h); omega
   ·
    rw [cm hj]; exact Nat.zero_le _
 ·
  have hb : b8 c = false ∨ b < 0 ∨ (c.blocks.length : Int) ≤ b := by
   cases hv : b8 c with
   | false => exact .inl rfl
   | true =>
    by_cases J : 0 ≤ b
    ·
     by_cases N : b < (c.blocks.length : Int)
     ·
      exact absurd ⟨hv, J, N⟩ hb
     ·
      exact .inr (.inr (by omega))
    ·
     exact .inr (.inl (by omega))
  rw [h0 hb, T hb]
  exact ⟨rfl, i4⟩
theorem ac_nb {c : VFnT} {x y : List Int} (z : b8 c = true → Lst x (acS c)) (h0 : b8 c = false → x = []) (k1 : b8 c = true → Lst y (acS c)) (A : b8 c = false → y = []) : (!(decide (x = y))) = false := by rw [decide_eq_true (ac_same z h0 k1 A).1]; rfl
theorem pt_nb {c : VFnT} {b : Int} {x y : List (List Int)} (hi : ∀ j, (c.blocks.getD j default).ins.length ≤ 1073741823) (z : b8 c = true → 0 ≤ b → b < (c.blocks.length : Int) → PtF c b.toNat x) (h0 : (b8 c = false ∨ b < 0 ∨ (c.blocks.length : Int) ≤ b) → x = []) (k1 : b8 c = true → 0 ≤ b → b < (c.blocks.length : Int) → PtF c b.toNat y) (A : (b8 c = false ∨ b < 0 ∨ (c.blocks.length : Int) ≤ b) → y = []) : (!(decide (x = y))) = false := by rw [decide_eq_true (cu hi z h0 k1 A).1]; rfl
def insB (c : VFnT) : Prop := c.blocks.length ≤ 1000 ∧ ∀ j, (c.blocks.getD j default).ins.length ≤ 1073741823
theorem insB_at {l : List VFnT} (h : ∀ x ∈ l, insB x) (i : Nat) : insB (l.getD i default) := by
 rw [List.getD_eq_getElem?_getD]
 rcases hk : l[i]? with _ | x
 ·
  exact ⟨Nat.zero_le _, fun j => Nat.zero_le _⟩
 ·
  exact h x (List.mem_of_getElem? hk)
theorem insB_mut {c x : VFnT} (z : x.blocks.length ≤ 1000) (A : ∀ m, (∀ j, okI m (c.blocks.getD j default).ins) → ∀ j, okI (m + 1) (x.blocks.getD j default).ins) (ho : ∀ j, okI 6 (c.blocks.getD j default).ins) : insB x := ⟨z, fun j => Nat.le_trans (A 6 ho j).1 (by omega)⟩
theorem insB3 {a b c : VFnT} (ha : insB a) (hb : insB b) (hc : insB c) : ∀ x ∈ [a, b, c], insB x := fun x hx => by
 simp only [List.mem_cons, List.not_mem_nil, or_false] at hx
 rcases hx with rfl | rfl | rfl
 ·
  exact ha
 ·
  exact hb
 ·
  exact hc
theorem ex_c (_ : FuncId) {F : Fz} {H : Heap} {R : List Fp} (hs : HS (.of H []) F H [] R) (hT : TB 37 tabC F) : C Tryd.prog 1 (KT 60 15 37 tabC) 15 [] H fun v H' => ∃ (r : Bool), H' = H ∧ v = .bool r ∧ r = true :=
 ⟨0, .bool true, H, by unfold call jK; rw [(hT.heap hs).known (by decide)], true, rfl, rfl, rfl⟩
theorem ex_c_q (e : FuncId) {F : Fz} {H : Heap} {R : List Fp} (hs : HS (.of H []) F H [] R) (hT : TB 37 tabC F) : C Tryd.prog 1 (KT 60 15 37 tabC) 15 [] H fun v H' => v = .bool true ∧ H' = H := cq (ex_c e hs hT) (by rintro _ _ ⟨_, rfl, rfl, rfl⟩; exact ⟨rfl, rfl⟩)
set_option maxHeartbeats 4000000 in
theorem matches_law {N : Option Addr} {T : Nat} (raw : VFnT) {a_l : Option Addr} {k_l : Nat} (l : List Int) (params : Int) (how : Int) (at_ : Int) (block : Int) {F : Fz} {H : Heap} {R : List Fp} (hs : HS (.of H []) F H [] R) (lF : in64 raw.params) (lG : in64 raw.regs) (c6 : SR F (.slice N raw.blocks.length T) raw.blocks) (hl : SR F (.slice a_l l.length k_l) l) (hparams : in64 params) (hhow : in64 how) (hat_ : in64 at_) (hblock : in64 block) (hT : TB 37 tabC F) (hraw : ∀ j, (raw.blocks.getD j default).ins.length ≤ 1073741823) : C Tryd.prog 1 (KT 60 15 37 tabC) 3 [(.agg ⟨[(iI raw.params), (iI raw.regs), (.slice N raw.blocks.length T)]⟩), (.slice a_l l.length k_l), (iI params), (iI how), (iI at_), (iI block)] H fun v H' => ∃ (r : Bool) (F' : Fz), Fz.le F F' ∧ HS (.of H []) F' H' [] R ∧ v = .bool r ∧ r = true := by
 refine aG Tryd.func3 rfl rfl ?_
 refine aj 1 rfl ?_
 refine aa ?_
 refine aF (bB hs rfl rfl) rfl rfl ?_
 rintro _ H2 _ ⟨b1, rfl, b3, _⟩
 let he : Fp := [(b1, .cells [(iI raw.params), (iI raw.regs), (.slice N raw.blocks.length T)] none false)]
 have b3 : HS _ _ _ [he] _ := b3
 refine wa (.bool false) rfl rfl rfl ?_
 refine ae 3 rfl ?_
 refine wR 1 [(1, .o (.slice N raw.blocks.length T))] 21 24 [] [(24, (.bool (decide ((20 : Int) < (raw.blocks.length : Int)))))] (vA (ql 22 2 (HS.hc b3 (i := 0) rfl) rfl rfl) trivial) rfl fun _ => ?_
 refine ak 1 2 (v := (decide ((20 : Int) < (raw.blocks.length : Int)))) rfl rfl rfl rfl (fun c4 => ?_) (fun c4 => ?_)
 ·
  try simp only [BS] at c4
  refine wR 1 [(0, .o (.bool true))] 12 12 [25] [(12, (.bool true))] (vA (ex_c_q 15 (HS.call b3) hT) trivial) rfl fun _ => ?_
  refine ag ⟨.inr rfl, _, rfl, true, _, fR, (HS.forget b3), rfl, (by first | rfl | simp)⟩
 ·
  try simp only [BS] at c4
  have hrn : raw.blocks.length ≤ 1000 := by omega
  refine bc rfl ?_
  refine fm (.slice a_l l.length k_l) rfl rfl rfl ?_
  refine fm (.slice a_l l.length k_l) rfl rfl rfl ?_
  refine am (v := (iI (l.length : Int))) (id := .v) (fZ (α := Int) rfl rfl (SR.sv hl b3.log0)) rfl rfl (gP rfl) (be _) ?_
  refine am (v := (iI (if (36 : Int) < (l.length : Int) then (36 : Int) else (l.length : Int)))) (id := .x []) (pmm_ok (w := true) rfl rfl rfl) rfl rfl (dP (W := []) rfl rfl fun b hb => absurd hb List.not_mem_nil) (⟨.inl rfl, ⟨.inl rfl, ⟨.inr trivial, trivial⟩⟩⟩) ?_
  refine dC (id := .q fun b => F b ≠ none) (rs_cutt (α := Int) (j := (if (36 : Int) < (l.length : Int) then (36 : Int) else (l.length : Int)).toNat) hl b3.log0 rfl rfl rfl (optN (by omega)) (by omega)) rfl rfl (by rintro _ _ _ ⟨_, _, _, hH, _⟩; exact did_q rfl (SR.q hl)) (⟨.inl rfl, ⟨.inl rfl, ⟨.inl rfl, ⟨.inl rfl, trivial⟩⟩⟩⟩) ?_
  rintro _ _ _ ⟨a6, k6, rfl, f4, lE⟩ lH h6
  simp only at f4; replace f4 := f4.symm; subst f4
  have g5 := HS.lg b3.log0 b3 h6
  generalize ({ { H2 with log := [] } with log := lH } : Heap) = lr at g5 ⊢
  refine fm (iI params) rfl rfl rfl ?_
  have mZ := fj params (3 : Int)
  refine aX (W := []) (ah rfl rfl rfl) rfl rfl rfl (m1.pick_c 15 params (3) _ (by omega)) (⟨.inl rfl, ⟨.inr (fun b hb => absurd hb List.not_mem_nil), ⟨.inr ⟨trivial, trivial⟩, ⟨.inr trivial, ⟨.inr trivial, ⟨.inr trivial, trivial⟩⟩⟩⟩⟩⟩) ?_
  rintro _ _ ⟨r8, rfl, rfl, rfl⟩
  refine ⟨fun b hb => absurd hb List.not_mem_nil, fun lI h7 => ?_⟩
  have f5 := HS.lg g5.log0 g5 h7
  generalize ({ { lr with log := [] } with log := lI } : Heap) = mV at f5 ⊢
  refine aX (W := []) (ah rfl rfl rfl) rfl rfl rfl (m5.vf_c 15 (l.take (if (36 : Int) < (l.length : Int) then (36 : Int) else (l.length : Int)).toNat) (bF params (3 : Int)) (HS.call f5.log0) lE hT (by first | omega | (rw [List.length_take]; exact Nat.le_trans (Nat.min_le_left _ _) (by split <;> omega))) (by first | omega | (rw [List.length_take]; exact Nat.le_trans (Nat.min_le_left _ _) (by split <;> omega)))) (⟨.inl rfl, ⟨.inl rfl, ⟨.inl rfl, ⟨.inl rfl, ⟨.inl rfl, ⟨.inl rfl, ⟨.inl rfl, trivial⟩⟩⟩⟩⟩⟩⟩) ?_
  rintro _ H9 ⟨E, a3, a4, F9, g0, a5, rfl, lC, lD, b2, h9⟩
  refine ⟨Wr.did a5.log, fun lJ h8 => ?_⟩
  replace a5 := HS.back f5.log0 rfl a5
  replace a5 := HS.lg a5 f5 h8
  generalize ({ H9 with log := lJ } : Heap) = mW at a5 ⊢
  have a5 : HS _ _ _ [_] _ := a5
  replace hT := hT.mono g0
  refine dC (id := .a) (bE a5.log0 rfl) rfl rfl (fun _ _ _ _ => did_a rfl rfl rfl) (⟨.inr trivial, ⟨.inr trivial, ⟨.inr trivial, ⟨.inr trivial, ⟨.inr trivial, ⟨.inr trivial, ⟨.inr trivial, ⟨.inr trivial, trivial⟩⟩⟩⟩⟩⟩⟩⟩) ?_
  rintro _ kt _ ⟨ez, rfl, bb, _⟩ iz hh
  replace bb := HS.lg bb a5 hh
  generalize ({ kt with log := iz } : Heap) = lM at bb ⊢
  have bb : HS _ _ _ [_, [(ez, .cells [(iI 0), (iI 0), (.slice none 0 0)] none false)]] _ := bb
  refine ku (id := .x [ez]) (aD (q := 1) bb.log0 rfl rfl rfl rfl rfl rfl rfl rfl rfl) rfl (by rintro _ _ _ ⟨_, hwr⟩; exact dP rfl rfl (Wr.did hwr)) (⟨.inl rfl, ⟨.inl rfl, ⟨.inl rfl, ⟨.inl rfl, ⟨.inl rfl, ⟨.inl rfl, ⟨.inl rfl, ⟨.inl rfl, ⟨.inl rfl, trivial⟩⟩⟩⟩⟩⟩⟩⟩⟩) ?_
  rintro _ kx _ ⟨Z, _⟩ i1 hj
  replace Z := HS.lg Z bb hj
  generalize ({ kx with log := i1 } : Heap) = lN at Z ⊢
  let hf : Fp := [(ez, .cells [(iI E.params), (iI E.regs), (.slice a3 E.blocks.length a4)] none false)]
  have Z : HS _ _ _ [_, hf] _ := Z
  refine cz ?_
  refine aj 3 rfl ?_
  have hG : vfG E (bF params 3) := by assumption
  have hins := hG.ins
  have hnb := hG.nb
  have ho : ∀ j, okI 6 (E.blocks.getD j default).ins := fun j => vfG.oki hG j
  have hcb : insB E := ⟨by omega, fun j => Nat.le_trans (hins j) (by omega)⟩
  refine bc rfl ?_
  let hR : Value := (.agg ⟨[(iI raw.params), (iI raw.regs), (.slice N raw.blocks.length T)]⟩)
  refine am (v := hR) (id := .l b1) (cY (i := 0) rfl rfl rfl (HS.hc Z.log0 (i := 0) rfl) rfl rfl rfl) rfl rfl (bT rfl) trivial ?_
  let hg : Value := (.agg ⟨[(iI E.params), (iI E.regs), (.slice a3 E.blocks.length a4)]⟩)
  refine am (v := hg) (id := .l ez) (cY (i := 0) rfl rfl rfl (HS.hc Z.log0 (i := 1) rfl) rfl rfl rfl) rfl rfl (bT rfl) (⟨.inr trivial, trivial⟩) ?_
  refine am (v := hg) (id := .l ez) (cY (i := 0) rfl rfl rfl (HS.hc Z.log0 (i := 1) rfl) rfl rfl rfl) rfl rfl (bT rfl) (⟨.inr trivial, ⟨.inr trivial, trivial⟩⟩) ?_
  refine fm (iI how) rfl rfl rfl ?_
  refine fm (iI at_) rfl rfl rfl ?_
  refine aX (W := []) (ah rfl rfl rfl) rfl rfl rfl (m9.mut_c 15 E how at_ (HS.call Z.log0) (by omega) (by omega) b2 (by omega) (by omega) hT (by first | omega | exact fun j => oki_up (ho j) (by omega)) (by first | omega | exact fun j => oki_up (ho j) (by omega))) (⟨.inl rfl, ⟨.inl rfl, ⟨.inl rfl, ⟨.inr List.not_mem_nil, ⟨.inr List.not_mem_nil, trivial⟩⟩⟩⟩⟩) ?_
  rintro _ ky ⟨z, ax, ay, kn, dt, aw, rfl, kk, kl, f6, mn, mz⟩
  refine ⟨Wr.did aw.log, fun i2 hm => ?_⟩
  replace aw := HS.back Z.log0 rfl aw
  replace aw := HS.lg aw Z hm
  generalize ({ ky with log := i2 } : Heap) = lO at aw ⊢
  have aw : HS _ _ _ [_, _] _ := aw
  replace c6 := (c6.mono g0).mono dt
  replace b2 := b2.mono dt
  refine dC (id := .a) (bA (α := VFnT) (ps := [(0, hR), (1, hg), (2, (.agg ⟨[(iI z.params), (iI z.regs), (.slice ax z.blocks.length ay)]⟩))]) (cells := [(iI raw.params), (iI raw.regs), (.slice N raw.blocks.length T), (iI E.params), (iI E.regs), (.slice a3 E.blocks.length a4), (iI z.params), (iI z.regs), (.slice ax z.blocks.length ay)]) ([raw, E, z] : List VFnT) aw.log0 rfl rfl rfl (by kernel_rfl) ⟨[(iI raw.params), (iI raw.regs), (.slice N raw.blocks.length T)], [(iI E.params), (iI E.regs), (.slice a3 E.blocks.length a4), (iI z.params), (iI z.regs), (.slice ax z.blocks.length ay)], rfl, ⟨N, T, rfl, by first | omega | (dsimp only; omega), by first | omega | (dsimp only; omega), c6⟩, ⟨[(iI E.params), (iI E.regs), (.slice a3 E.blocks.length a4)], [(iI z.params), (iI z.regs), (.slice ax z.blocks.length ay)], rfl, ⟨a3, a4, rfl, by first | omega | (dsimp only; omega), by first | omega | (dsimp only; omega), b2⟩, ⟨[(iI z.params), (iI z.regs), (.slice ax z.blocks.length ay)], [], rfl, ⟨ax, ay, rfl, by first | omega | (dsimp only; omega), by first | omega | (dsimp only; omega), f6⟩, rfl⟩⟩⟩ rfl) rfl rfl (fun _ _ _ _ => did_a rfl rfl rfl) (⟨.inl rfl, ⟨.inl rfl, ⟨.inl rfl, ⟨.inl rfl, ⟨.inl rfl, ⟨.inl rfl, trivial⟩⟩⟩⟩⟩⟩) ?_
  rintro _ k0 g9 ⟨hM, hQ, rfl, c5, bk, _⟩ i3 hn
  replace bk := HS.lg bk aw hn
  generalize ({ k0 with log := i3 } : Heap) = lP at bk ⊢
  have bk : HS _ _ _ [_, _, g9] _ := bk
  have mD : ([raw, E, z] : List VFnT).length = 3 := rfl
  refine am (v := (iI (([raw, E, z] : List VFnT).length : Int))) (id := .v) (fZ (α := VFnT) rfl rfl (OS.sv c5 bk.log0 (i := 2) rfl)) rfl rfl (gP rfl) (be _) ?_
  refine fm (iI 0) rfl rfl rfl ?_
  refine cz ?_
  refine aj 2 rfl ?_
  refine ap (fun (mm : Nat) f H' => ∃ (k : Nat) (F' : Fz), Fz.le kn F' ∧ HS (Base.of H []) F' H' [he, hf, g9] R ∧ aI f [(5, (iI block)), (40, (.slice hM ([raw, E, z] : List VFnT).length hQ)), (41, (iI (([raw, E, z] : List VFnT).length : Int))), (42, (iI (k : Int)))] ∧ mm = 3 - k ∧ (k ≤ 3) ∧ (∀ x ∈ ([raw, E, z] : List VFnT), insB x)) _ ⟨0, _, fR, bk, (agC rfl (agC rfl (agC rfl (agC rfl agN)))), rfl, (by first | assumption | omega | (simp at *; omega)), (by exact insB3 ⟨hrn, hraw⟩ hcb (insB_mut (by assumption) (by assumption) ho))⟩ ?_
  rintro mE mX mQ ⟨k, mG, dv, c7, g1, rfl, hk, hxs⟩ ih
  refine au _ g1 (fun _ => ?_)
  clear g1
  replace hT := (hT.mono dt).mono dv
  replace c5 := c5.mono dv
  have hxb := insB_at hxs k
  refine aj 1 rfl ?_
  refine wR 2 [] 43 43 [] [(43, (.bool (decide ((k : Int) < (([raw, E, z] : List VFnT).length : Int)))))] trivial rfl fun _ => ?_
  refine ak 4 5 (v := (decide ((k : Int) < (([raw, E, z] : List VFnT).length : Int)))) rfl rfl rfl rfl (fun f7 => ?_) (fun f7 => ?_)
  ·
   try simp only [BS] at f7
   refine aa ?_
   obtain ⟨b4, g6⟩ := Sv.view (OS.sv c5 c7 (i := 2) rfl)
   obtain ⟨lK, lL, A⟩ := VFnT.fx (g6 k)
   let J : Value := (.agg ⟨[(iI (([raw, E, z] : List VFnT).getD k default).params), (iI (([raw, E, z] : List VFnT).getD k default).regs), (.slice (cA (b4 k) 2) (([raw, E, z] : List VFnT).getD k default).blocks.length (cK (b4 k) 2))]⟩)
   refine wRo 2 0 [(1, .o J)] 44 45 [] [(45, J)] (vA (Sv.ix (j := (k : Int)) (OS.sv c5 c7 (i := 2) rfl) (by omega) (show (k : Int) < (3 : Int) from by first | omega | (dsimp only; omega))) (vA (qn 24 0 3 (VFnT.vw (g6 k) (show k < 3 from by first | omega | (dsimp only; omega))) rfl rfl rfl rfl) trivial)) rfl fun _ => ?_
   refine aF (bE c7 rfl) rfl rfl ?_
   rintro _ mR _ ⟨b0, rfl, f2, _⟩
   have f2 : HS _ _ _ [_, _, _, [(b0, .cells [(iI 0), (iI 0), (.slice none 0 0)] none false)]] _ := f2
   refine aM (aD (q := 3) f2 rfl rfl rfl rfl rfl rfl rfl rfl rfl) rfl ?_
   rintro _ mS _ ⟨c8, _⟩
   let hS : Fp := [(b0, .cells [(iI (([raw, E, z] : List VFnT).getD k default).params), (iI (([raw, E, z] : List VFnT).getD k default).regs), (.slice (cA (b4 k) 2) (([raw, E, z] : List VFnT).getD k default).blocks.length (cK (b4 k) 2))] none false)]
   have c8 : HS _ _ _ [_, _, _, hS] _ := c8
   refine ae 2 rfl ?_
   refine aa ?_
   refine wRo 1 0 [(0, .o J)] 47 47 [] [(47, J)] (vA (qn 24 0 3 (HS.hc c8 (i := 3) rfl) rfl rfl rfl rfl) trivial) rfl fun _ => ?_
   refine aA (ah rfl rfl rfl) rfl rfl (md.blocks_c 15 (([raw, E, z] : List VFnT).getD k default) (HS.call c8) (by omega) (by omega) A hT (by exact fun j => Nat.le_trans (hxb.2 j) (by omega))) ?_
   rintro _ mT ⟨ch, dk, a0, cl, dn, ar, mH, e0, bl, rfl, es, et, mp, l3⟩
   replace bl := HS.back c8 rfl bl
   have bl : HS _ _ _ [_, _, _, _] _ := bl
   replace hT := hT.mono e0
   replace A := A.mono e0
   refine wRo 5 2 [] 49 50 [16, 17, 46] [(16, (.slice ch a0.length dk)), (17, (.slice cl ar.length dn))] trivial rfl fun _ => ?_
   refine ae 2 rfl ?_
   refine aa ?_
   refine wRo 1 0 [(0, .o J)] 52 52 [] [(52, J)] (vA (qn 24 0 3 (HS.hc bl (i := 3) rfl) rfl rfl rfl rfl) trivial) rfl fun _ => ?_
   refine aA (ah rfl rfl rfl) rfl rfl (mi.rblocks_c 15 (([raw, E, z] : List VFnT).getD k default) (HS.call bl) (by omega) (by omega) A hT (by exact fun j => Nat.le_trans (hxb.2 j) (by omega))) ?_
   rintro _ k3 ⟨ci, dl, a1, co, ds, av, mI, c3, bz, rfl, hI, hK, mq, l4⟩
   replace bz := HS.back bl rfl bz
   have bz : HS _ _ _ [_, _, _, _] _ := bz
   replace hT := hT.mono c3
   replace es := es.mono c3
   replace et := et.mono c3
   replace A := A.mono c3
   refine wRo 5 2 [] 54 55 [18, 19, 51] [(18, (.slice ci a1.length dl)), (19, (.slice co av.length ds))] trivial rfl fun _ => ?_
   refine ae 3 rfl ?_
   obtain ⟨⟨e1, e2⟩, e3, e4⟩ := bk_same (x := a0) (y := ar) (p := a1) (q := av) (by assumption) (by assumption) (by assumption) (by assumption)
   have e5 := e3.1
   have e6 := e4.1
   have b9 := e3.2
   have cc := e4.2
   refine bc rfl ?_
   refine fm (.slice ch a0.length dk) rfl rfl rfl ?_
   refine fm (.slice ci a1.length dl) rfl rfl rfl ?_
   refine aX (W := []) (ah rfl rfl rfl) rfl rfl rfl (mh.ey 15 a0 a1 (HS.call bz.log0) es hI hT (by first | omega | exact fun j => Nat.le_trans (b9 j) (by omega) | exact fun j => Nat.le_trans (cc j) (by omega) | exact (cu hxb.2 (by assumption) (by assumption) (by assumption) (by assumption)).2.1 | exact fun j => Nat.le_trans ((cu hxb.2 (by assumption) (by assumption) (by assumption) (by assumption)).2.2 j) (by omega)) (by first | omega | exact fun j => Nat.le_trans (b9 j) (by omega) | exact fun j => Nat.le_trans (cc j) (by omega) | exact (cu hxb.2 (by assumption) (by assumption) (by assumption) (by assumption)).2.1 | exact fun j => Nat.le_trans ((cu hxb.2 (by assumption) (by assumption) (by assumption) (by assumption)).2.2 j) (by omega))) (⟨.inl rfl, ⟨.inl rfl, trivial⟩⟩) ?_
   rintro _ _ ⟨m0, rfl, rfl, rfl⟩
   refine ⟨fun b hb => absurd hb List.not_mem_nil, fun ja hp => ?_⟩
   have ex := HS.lg bz.log0 bz hp
   generalize ({ { k3 with log := [] } with log := ja } : Heap) = hV at ex ⊢
   refine am (v := (.bool (!(decide (a0 = a1))))) (id := .v) (jz rfl) rfl rfl (br rfl) (be _) ?_
   refine fm (.bool (!(decide (a0 = a1)))) rfl rfl rfl ?_
   have c0 : (!(decide (a0 = a1))) = false := by rw [decide_eq_true e1]; rfl
   refine er rfl c0 ?_
   refine fm (.slice cl ar.length dn) rfl rfl rfl ?_
   refine er rfl c0 ?_
   refine fm (.slice co av.length ds) rfl rfl rfl ?_
   refine er rfl c0 ?_
   refine aX (W := []) (ah rfl rfl rfl) rfl rfl rfl (mh.ey 15 ar av (HS.call ex.log0) et hK hT (by first | omega | exact fun j => Nat.le_trans (b9 j) (by omega) | exact fun j => Nat.le_trans (cc j) (by omega) | exact (cu hxb.2 (by assumption) (by assumption) (by assumption) (by assumption)).2.1 | exact fun j => Nat.le_trans ((cu hxb.2 (by assumption) (by assumption) (by assumption) (by assumption)).2.2 j) (by omega)) (by first | omega | exact fun j => Nat.le_trans (b9 j) (by omega) | exact fun j => Nat.le_trans (cc j) (by omega) | exact (cu hxb.2 (by assumption) (by assumption) (by assumption) (by assumption)).2.1 | exact fun j => Nat.le_trans ((cu hxb.2 (by assumption) (by assumption) (by assumption) (by assumption)).2.2 j) (by omega))) (⟨.inl rfl, ⟨.inl rfl, ⟨.inl rfl, ⟨.inl rfl, ⟨.inl rfl, ⟨.inl rfl, ⟨.inl rfl, trivial⟩⟩⟩⟩⟩⟩⟩) ?_
   rintro _ _ ⟨m7, rfl, rfl, rfl⟩
   refine ⟨fun b hb => absurd hb List.not_mem_nil, fun jb hq => ?_⟩
   have c9 := HS.lg ex.log0 ex hq
   generalize ({ { hV with log := [] } with log := jb } : Heap) = lR at c9 ⊢
   refine er rfl c0 ?_
   refine am (v := (.bool (!(decide (ar = av))))) (id := .v) (jz rfl) rfl rfl (br rfl) (be _) ?_
   refine am (v := (.bool (!(decide (ar = av))))) (id := .v) (fu rfl c0 rfl) rfl rfl (br rfl) (be _) ?_
   refine fm (.bool (!(decide (ar = av)))) rfl rfl rfl ?_
   have a9 : (!(decide (ar = av))) = false := by rw [decide_eq_true e2]; rfl
   refine er rfl a9 ?_
   refine am (v := J) (id := .l b0) (cY (i := 0) rfl rfl rfl (HS.hc c9.log0 (i := 3) rfl) rfl rfl rfl) rfl rfl (bT rfl) (⟨.inl rfl, ⟨.inl rfl, ⟨.inl rfl, ⟨.inl rfl, ⟨.inl rfl, ⟨.inl rfl, ⟨.inl rfl, ⟨.inl rfl, ⟨.inl rfl, ⟨.inl rfl, ⟨.inl rfl, trivial⟩⟩⟩⟩⟩⟩⟩⟩⟩⟩⟩) ?_
   refine er rfl a9 ?_
   refine aX (W := []) (ah rfl rfl rfl) rfl rfl rfl (mg.across_c 15 (([raw, E, z] : List VFnT).getD k default) (HS.call c9.log0) (by omega) (by omega) A hT (by exact fun j => Nat.le_trans (hxb.2 j) (by omega))) (⟨.inl rfl, ⟨.inl rfl, ⟨.inl rfl, ⟨.inl rfl, ⟨.inl rfl, ⟨.inl rfl, ⟨.inl rfl, ⟨.inl rfl, ⟨.inl rfl, ⟨.inl rfl, ⟨.inl rfl, ⟨.inl rfl, trivial⟩⟩⟩⟩⟩⟩⟩⟩⟩⟩⟩⟩) ?_
   rintro _ k4 ⟨h3, it, a7, ha, mJ, fd, U, rfl, em, mr, l5⟩
   refine ⟨Wr.did U.log, fun jc hr => ?_⟩
   replace U := HS.back c9.log0 rfl U
   replace U := HS.lg U c9 hr
   generalize ({ k4 with log := jc } : Heap) = lS at U ⊢
   have U : HS _ _ _ [_, _, _, _, ha] _ := U
   replace hT := hT.mono fd
   replace A := A.mono fd
   refine er rfl a9 ?_
   refine am (v := J) (id := .l b0) (cY (i := 0) rfl rfl rfl (HS.hc U.log0 (i := 3) rfl) rfl rfl rfl) rfl rfl (bT rfl) (⟨.inr List.not_mem_nil, ⟨.inr trivial, ⟨.inl rfl, ⟨.inl rfl, ⟨.inl rfl, ⟨.inl rfl, ⟨.inl rfl, ⟨.inl rfl, ⟨.inl rfl, ⟨.inl rfl, ⟨.inl rfl, ⟨.inl rfl, ⟨.inl rfl, trivial⟩⟩⟩⟩⟩⟩⟩⟩⟩⟩⟩⟩⟩) ?_
   refine er rfl a9 ?_
   refine aX (W := []) (ah rfl rfl rfl) rfl rfl rfl (mj.rac_c 15 (([raw, E, z] : List VFnT).getD k default) (HS.call U.log0) (by omega) (by omega) A hT (by exact fun j => Nat.le_trans (hxb.2 j) (by omega))) (⟨.inl rfl, ⟨.inl rfl, ⟨.inl rfl, ⟨.inl rfl, ⟨.inl rfl, ⟨.inl rfl, ⟨.inl rfl, ⟨.inl rfl, ⟨.inl rfl, ⟨.inl rfl, ⟨.inl rfl, ⟨.inl rfl, ⟨.inl rfl, ⟨.inl rfl, trivial⟩⟩⟩⟩⟩⟩⟩⟩⟩⟩⟩⟩⟩⟩) ?_
   rintro _ k5 ⟨h4, iv, a8, mK, d1, ad, rfl, hF, ms, l6⟩
   refine ⟨Wr.did ad.log, fun jq ht => ?_⟩
   replace ad := HS.back U.log0 rfl ad
   replace ad := HS.lg ad U ht
   generalize ({ k5 with log := jq } : Heap) = hW at ad ⊢
   have ad : HS _ _ _ [_, _, _, _, _] _ := ad
   replace hT := hT.mono d1
   replace em := em.mono d1
   replace A := A.mono d1
   refine er rfl a9 ?_
   obtain ⟨mL, go, f3, ib, mA⟩ := OS.frz em ad (i := 4) rfl
   have f3 : HS _ _ _ [_, _, _, _, []] _ := f3
   refine aX (W := []) (ah rfl rfl rfl) rfl rfl rfl (m6.sameInts_c 15 a7 a8 (HS.call f3.log0) ib (hF.mono go) (hT.mono go) (by exact Nat.le_trans (ac_same (by assumption) (by assumption) (by assumption) (by assumption)).2 (by omega))) (⟨.inl rfl, ⟨.inl rfl, ⟨.inl rfl, ⟨.inl rfl, ⟨.inl rfl, ⟨.inl rfl, ⟨.inl rfl, ⟨.inl rfl, ⟨.inl rfl, ⟨.inl rfl, ⟨.inl rfl, ⟨.inl rfl, ⟨.inl rfl, ⟨.inl rfl, ⟨.inl rfl, trivial⟩⟩⟩⟩⟩⟩⟩⟩⟩⟩⟩⟩⟩⟩⟩) ?_
   rintro _ _ ⟨m8, rfl, rfl, rfl⟩
   refine ⟨fun b hb => absurd hb List.not_mem_nil, fun jw hu => ?_⟩
   have dd := HS.lg ad.log0 ad hu
   generalize ({ { hW with log := [] } with log := jw } : Heap) = lT at dd ⊢
   refine er rfl a9 ?_
   refine am (v := (.bool (!(decide (a7 = a8))))) (id := .v) (jz rfl) rfl rfl (br rfl) (be _) ?_
   refine am (v := (.bool (!(decide (a7 = a8))))) (id := .v) (fu rfl a9 rfl) rfl rfl (br rfl) (be _) ?_
   refine fm (.bool (!(decide (a7 = a8)))) rfl rfl rfl ?_
   have a2 : (!(decide (a7 = a8))) = false := by exact ac_nb (by assumption) (by assumption) (by assumption) (by assumption)
   refine er rfl a2 ?_
   refine am (v := J) (id := .l b0) (cY (i := 0) rfl rfl rfl (HS.hc dd.log0 (i := 3) rfl) rfl rfl rfl) rfl rfl (bT rfl) (⟨.inl rfl, ⟨.inl rfl, ⟨.inl rfl, ⟨.inl rfl, ⟨.inl rfl, ⟨.inl rfl, ⟨.inl rfl, ⟨.inl rfl, ⟨.inl rfl, ⟨.inl rfl, ⟨.inl rfl, ⟨.inl rfl, ⟨.inl rfl, ⟨.inl rfl, ⟨.inl rfl, ⟨.inl rfl, ⟨.inl rfl, ⟨.inl rfl, ⟨.inl rfl, trivial⟩⟩⟩⟩⟩⟩⟩⟩⟩⟩⟩⟩⟩⟩⟩⟩⟩⟩⟩) ?_
   refine er rfl a2 ?_
   refine fm (iI block) rfl rfl rfl ?_
   refine er rfl a2 ?_
   refine aX (W := []) (ah rfl rfl rfl) rfl rfl rfl (md.points_c 15 (([raw, E, z] : List VFnT).getD k default) block (HS.call dd.log0) (by omega) (by omega) A (by omega) hT (by exact fun j => Nat.le_trans (hxb.2 j) (by omega))) (⟨.inl rfl, ⟨.inl rfl, ⟨.inl rfl, ⟨.inl rfl, ⟨.inl rfl, ⟨.inl rfl, ⟨.inl rfl, ⟨.inl rfl, ⟨.inl rfl, ⟨.inl rfl, ⟨.inl rfl, ⟨.inl rfl, ⟨.inl rfl, ⟨.inl rfl, ⟨.inl rfl, ⟨.inl rfl, ⟨.inl rfl, ⟨.inl rfl, ⟨.inl rfl, ⟨.inl rfl, ⟨.inl rfl, trivial⟩⟩⟩⟩⟩⟩⟩⟩⟩⟩⟩⟩⟩⟩⟩⟩⟩⟩⟩⟩⟩) ?_
   rintro _ k7 ⟨h1, ik, b6, mM, fi, V, rfl, d4, mu, l7⟩
   refine ⟨Wr.did V.log, fun j0 hv => ?_⟩
   replace V := HS.back dd.log0 rfl V
   replace V := HS.lg V dd hv
   generalize ({ k7 with log := j0 } : Heap) = lU at V ⊢
   have V : HS _ _ _ [_, _, _, _, ha] _ := V
   replace hT := hT.mono fi
   replace A := A.mono fi
   refine er rfl a2 ?_
   refine am (v := J) (id := .l b0) (cY (i := 0) rfl rfl rfl (HS.hc V.log0 (i := 3) rfl) rfl rfl rfl) rfl rfl (bT rfl) (⟨.inr List.not_mem_nil, ⟨.inr trivial, ⟨.inr trivial, ⟨.inl rfl, ⟨.inl rfl, ⟨.inl rfl, ⟨.inl rfl, ⟨.inl rfl, ⟨.inl rfl, ⟨.inl rfl, ⟨.inl rfl, ⟨.inl rfl, ⟨.inl rfl, ⟨.inl rfl, ⟨.inl rfl, ⟨.inl rfl, ⟨.inl rfl, ⟨.inl rfl, ⟨.inl rfl, ⟨.inl rfl, ⟨.inl rfl, ⟨.inl rfl, trivial⟩⟩⟩⟩⟩⟩⟩⟩⟩⟩⟩⟩⟩⟩⟩⟩⟩⟩⟩⟩⟩⟩) ?_
   refine er rfl a2 ?_
   refine fm (iI block) rfl rfl rfl ?_
   refine er rfl a2 ?_
   refine aX (W := []) (ah rfl rfl rfl) rfl rfl rfl (mj.rlp_c 15 (([raw, E, z] : List VFnT).getD k default) block (HS.call V.log0) (by omega) (by omega) A (by omega) hT (by exact fun j => Nat.le_trans (hxb.2 j) (by omega))) (⟨.inl rfl, ⟨.inl rfl, ⟨.inl rfl, ⟨.inl rfl, ⟨.inl rfl, ⟨.inl rfl, ⟨.inl rfl, ⟨.inl rfl, ⟨.inl rfl, ⟨.inl rfl, ⟨.inl rfl, ⟨.inl rfl, ⟨.inl rfl, ⟨.inl rfl, ⟨.inl rfl, ⟨.inl rfl, ⟨.inl rfl, ⟨.inl rfl, ⟨.inl rfl, ⟨.inl rfl, ⟨.inl rfl, ⟨.inl rfl, ⟨.inl rfl, ⟨.inl rfl, trivial⟩⟩⟩⟩⟩⟩⟩⟩⟩⟩⟩⟩⟩⟩⟩⟩⟩⟩⟩⟩⟩⟩⟩⟩) ?_
   rintro _ k8 ⟨h2, il, b7, kr, d2, al, rfl, hD, mw, l8⟩
   refine ⟨Wr.did al.log, fun j1 hw => ?_⟩
   replace al := HS.back V.log0 rfl al
   replace al := HS.lg al V hw
   generalize ({ k8 with log := j1 } : Heap) = hX at al ⊢
   have al : HS _ _ _ [_, _, _, _, _] _ := al
   replace hT := hT.mono d2
   replace d4 := d4.mono d2
   refine er rfl a2 ?_
   refine aX (W := []) (ah rfl rfl rfl) rfl rfl rfl (mh.ey 15 b6 b7 (HS.call al.log0) d4 hD hT (by first | omega | exact fun j => Nat.le_trans (b9 j) (by omega) | exact fun j => Nat.le_trans (cc j) (by omega) | exact (cu hxb.2 (by assumption) (by assumption) (by assumption) (by assumption)).2.1 | exact fun j => Nat.le_trans ((cu hxb.2 (by assumption) (by assumption) (by assumption) (by assumption)).2.2 j) (by omega)) (by first | omega | exact fun j => Nat.le_trans (b9 j) (by omega) | exact fun j => Nat.le_trans (cc j) (by omega) | exact (cu hxb.2 (by assumption) (by assumption) (by assumption) (by assumption)).2.1 | exact fun j => Nat.le_trans ((cu hxb.2 (by assumption) (by assumption) (by assumption) (by assumption)).2.2 j) (by omega))) (⟨.inl rfl, ⟨.inl rfl, ⟨.inl rfl, ⟨.inl rfl, ⟨.inl rfl, ⟨.inl rfl, ⟨.inl rfl, ⟨.inl rfl, ⟨.inl rfl, ⟨.inl rfl, ⟨.inl rfl, ⟨.inl rfl, ⟨.inl rfl, ⟨.inl rfl, ⟨.inl rfl, ⟨.inl rfl, ⟨.inl rfl, ⟨.inl rfl, ⟨.inl rfl, ⟨.inl rfl, ⟨.inl rfl, ⟨.inl rfl, ⟨.inl rfl, ⟨.inl rfl, ⟨.inl rfl, trivial⟩⟩⟩⟩⟩⟩⟩⟩⟩⟩⟩⟩⟩⟩⟩⟩⟩⟩⟩⟩⟩⟩⟩⟩⟩) ?_
   rintro _ _ ⟨na, rfl, rfl, rfl⟩
   refine ⟨fun b hb => absurd hb List.not_mem_nil, fun j2 hz => ?_⟩
   have g3 := HS.lg al.log0 al hz
   generalize ({ { hX with log := [] } with log := j2 } : Heap) = lV at g3 ⊢
   refine er rfl a2 ?_
   refine am (v := (.bool (!(decide (b6 = b7))))) (id := .v) (jz rfl) rfl rfl (br rfl) (be _) ?_
   refine am (v := (.bool (!(decide (b6 = b7))))) (id := .v) (fu rfl a2 rfl) rfl rfl (br rfl) (be _) ?_
   refine cz ?_
   refine aj 1 rfl ?_
   refine wk_iff 2 (v := (!(decide (b6 = b7)))) rfl (by exact pt_nb hxb.2 (by assumption) (by assumption) (by assumption) (by assumption)) rfl rfl ?_
   refine wR 2 [] 1 0 [20] [(20, (iI (-1)))] trivial rfl fun _ => ?_
   refine ap (fun (mm : Nat) f H' => ∃ (kz : Int) (F' : Fz), Fz.le kr F' ∧ HS (Base.of H []) F' H' [he, hf, g9, hS, ha] R ∧ aI f [(5, (iI block)), (15, (.pointer (some ⟨b0, 0, none⟩))), (16, (.slice ch a0.length dk)), (17, (.slice cl ar.length dn)), (18, (.slice ci a1.length dl)), (19, (.slice co av.length ds)), (20, (iI kz)), (40, (.slice hM ([raw, E, z] : List VFnT).length hQ)), (41, (iI (([raw, E, z] : List VFnT).length : Int))), (42, (iI (k : Int))), (43, (.bool (decide ((k : Int) < (([raw, E, z] : List VFnT).length : Int))))), (45, J), (47, J), (48, (.tuple ⟨[(.slice ch a0.length dk), (.slice cl ar.length dn)]⟩)), (52, J), (53, (.tuple ⟨[(.slice ci a1.length dl), (.slice co av.length ds)]⟩)), (56, (.slice ch a0.length dk)), (57, (.slice ci a1.length dl)), (58, (.bool (decide (a0 = a1)))), (59, (.bool (!(decide (a0 = a1))))), (60, (.bool (!(decide (a0 = a1))))), (61, (.slice cl ar.length dn)), (62, (.slice co av.length ds)), (63, (.bool (decide (ar = av)))), (64, (.bool (!(decide (ar = av))))), (65, (.bool (!(decide (ar = av))))), (66, (.bool (!(decide (ar = av))))), (67, J), (68, (.slice h3 a7.length it)), (69, J), (70, (.slice h4 a8.length iv)), (71, (.bool (decide (a7 = a8)))), (72, (.bool (!(decide (a7 = a8))))), (73, (.bool (!(decide (a7 = a8))))), (74, (.bool (!(decide (a7 = a8))))), (75, J), (76, (iI block)), (77, (.slice h1 b6.length ik)), (78, J), (79, (iI block)), (80, (.slice h2 b7.length il)), (81, (.bool (decide (b6 = b7)))), (82, (.bool (!(decide (b6 = b7))))), (83, (.bool (!(decide (b6 = b7)))))] ∧ mm = (13 - kz).toNat ∧ (-1 ≤ kz ∧ kz ≤ 12)) _ ⟨(-1), _, fR, g3, (agC rfl (agC rfl (agC rfl (agC rfl (agC rfl (agC rfl (agC rfl (agC rfl (agC rfl (agC rfl (agC rfl (agC rfl (agC rfl (agC rfl (agC rfl (agC rfl (agC rfl (agC rfl (agC rfl (agC rfl (agC rfl (agC rfl (agC rfl (agC rfl (agC rfl (agC rfl (agC rfl (agC rfl (agC rfl (agC rfl (agC rfl (agC rfl (agC rfl (agC rfl (agC rfl (agC rfl (agC rfl (agC rfl (agC rfl (agC rfl (agC rfl (agC rfl (agC rfl (agC rfl agN)))))))))))))))))))))))))))))))))))))))))))), rfl, (by first | assumption | omega | (simp at *; omega))⟩ ?_
   rintro mF mY mU ⟨kz, mN, d3, b5, g2, rfl, hkz⟩ ii
   refine au _ g2 (fun _ => ?_)
   clear g2
   replace hT := hT.mono d3
   replace A := (A.mono d2).mono d3
   refine aj 2 rfl ?_
   refine wR 1 [(2, .o (.slice (cA (b4 k) 2) (([raw, E, z] : List VFnT).getD k default).blocks.length (cK (b4 k) 2)))] 84 92 [] [(92, (.bool ((decide (kz ≤ ((([raw, E, z] : List VFnT).getD k default).blocks.length : Int))) && (decide (kz < 12)))))] (vA (ql 22 2 (HS.hc b5 (i := 3) rfl) rfl rfl) trivial) rfl fun _ => ?_
   refine ak 4 5 (v := ((decide (kz ≤ ((([raw, E, z] : List VFnT).getD k default).blocks.length : Int))) && (decide (kz < 12)))) rfl rfl rfl rfl (fun f9 => ?_) (fun f9 => ?_)
   ·
    try simp only [BS] at f9
    refine bc rfl ?_
    refine am (v := J) (id := .l b0) (cY (i := 0) rfl rfl rfl (HS.hc b5.log0 (i := 3) rfl) rfl rfl rfl) rfl rfl (bT rfl) trivial ?_
    refine fm (iI kz) rfl rfl rfl ?_
    refine aX (W := []) (ah rfl rfl rfl) rfl rfl rfl (md.points_c 15 (([raw, E, z] : List VFnT).getD k default) kz (HS.call b5.log0) (by omega) (by omega) A (by omega) hT (by exact fun j => Nat.le_trans (hxb.2 j) (by omega))) (⟨.inl rfl, ⟨.inl rfl, trivial⟩⟩) ?_
    rintro _ k9 ⟨lZ, mB, g7, mO, f0, Y, rfl, ea, mx, l9⟩
    refine ⟨Wr.did Y.log, fun kc hA => ?_⟩
    replace Y := HS.back b5.log0 rfl Y
    replace Y := HS.lg Y b5 hA
    generalize ({ k9 with log := kc } : Heap) = lW at Y ⊢
    have Y : HS _ _ _ [_, _, _, _, _] _ := Y
    replace hT := hT.mono f0
    replace A := A.mono f0
    refine am (v := J) (id := .l b0) (cY (i := 0) rfl rfl rfl (HS.hc Y.log0 (i := 3) rfl) rfl rfl rfl) rfl rfl (bT rfl) (⟨.inr List.not_mem_nil, ⟨.inr trivial, ⟨.inr trivial, trivial⟩⟩⟩) ?_
    refine fm (iI kz) rfl rfl rfl ?_
    refine aX (W := []) (ah rfl rfl rfl) rfl rfl rfl (mj.rlp_c 15 (([raw, E, z] : List VFnT).getD k default) kz (HS.call Y.log0) (by omega) (by omega) A (by omega) hT (by exact fun j => Nat.le_trans (hxb.2 j) (by omega))) (⟨.inl rfl, ⟨.inl rfl, ⟨.inl rfl, ⟨.inl rfl, ⟨.inl rfl, trivial⟩⟩⟩⟩⟩) ?_
    rintro _ la ⟨l0, mC, g8, mP, f1, an, rfl, hE, my, mk⟩
    refine ⟨Wr.did an.log, fun kd hB => ?_⟩
    replace an := HS.back Y.log0 rfl an
    replace an := HS.lg an Y hB
    generalize ({ la with log := kd } : Heap) = hY at an ⊢
    have an : HS _ _ _ [_, _, _, _, _] _ := an
    replace hT := hT.mono f1
    replace ea := ea.mono f1
    refine aX (W := []) (ah rfl rfl rfl) rfl rfl rfl (mh.ey 15 g7 g8 (HS.call an.log0) ea hE hT (by first | omega | exact fun j => Nat.le_trans (b9 j) (by omega) | exact fun j => Nat.le_trans (cc j) (by omega) | exact (cu hxb.2 (by assumption) (by assumption) (by assumption) (by assumption)).2.1 | exact fun j => Nat.le_trans ((cu hxb.2 (by assumption) (by assumption) (by assumption) (by assumption)).2.2 j) (by omega)) (by first | omega | exact fun j => Nat.le_trans (b9 j) (by omega) | exact fun j => Nat.le_trans (cc j) (by omega) | exact (cu hxb.2 (by assumption) (by assumption) (by assumption) (by assumption)).2.1 | exact fun j => Nat.le_trans ((cu hxb.2 (by assumption) (by assumption) (by assumption) (by assumption)).2.2 j) (by omega))) (⟨.inl rfl, ⟨.inl rfl, ⟨.inl rfl, ⟨.inl rfl, ⟨.inl rfl, ⟨.inl rfl, trivial⟩⟩⟩⟩⟩⟩) ?_
    rintro _ _ ⟨nc, rfl, rfl, rfl⟩
    refine ⟨fun b hb => absurd hb List.not_mem_nil, fun ki hC => ?_⟩
    have g4 := HS.lg an.log0 an hC
    generalize ({ { hY with log := [] } with log := ki } : Heap) = lX at g4 ⊢
    refine am (v := (.bool (!(decide (g7 = g8))))) (id := .v) (jz rfl) rfl rfl (br rfl) (be _) ?_
    refine cz ?_
    refine aj 1 rfl ?_
    refine wk_iff 2 (v := (!(decide (g7 = g8)))) rfl (by exact pt_nb hxb.2 (by assumption) (by assumption) (by assumption) (by assumption)) rfl rfl ?_
    refine wR 1 [] 93 94 [20] [(20, (iI (kz + 1)))] (vA (vi (n := kz + 1) (by omega)) trivial) rfl fun _ => ?_
    refine ii _ _ _ ?_ ⟨kz + 1, _, (fT (fT (d3) f0) f1), g4, (agC rfl (agC rfl (agC rfl (agC rfl (agC rfl (agC rfl (agC rfl (agC rfl (agC rfl (agC rfl (agC rfl (agC rfl (agC rfl (agC rfl (agC rfl (agC rfl (agC rfl (agC rfl (agC rfl (agC rfl (agC rfl (agC rfl (agC rfl (agC rfl (agC rfl (agC rfl (agC rfl (agC rfl (agC rfl (agC rfl (agC rfl (agC rfl (agC rfl (agC rfl (agC rfl (agC rfl (agC rfl (agC rfl (agC rfl (agC rfl (agC rfl (agC rfl (agC rfl (agC rfl agN)))))))))))))))))))))))))))))))))))))))))))), rfl, (by first | assumption | omega | (simp at *; omega))⟩
    omega
   ·
    try simp only [BS] at f9
    refine wR 1 [] 42 42 [103] [(42, (iI ((k : Int) + 1)))] (vA (vi (n := (k : Int) + 1) (by omega)) trivial) rfl fun _ => ?_
    refine ih _ _ _ ?_ ⟨k + 1, _, (fT (fT (fT (fT (fT (fT (fT (dv) e0) c3) fd) d1) fi) d2) d3), (HS.sub b5 (List.sublist_append_left _ _)), (agC rfl (agC rfl (agC rfl (agC rfl agN)))), rfl, (by first | assumption | omega | (simp at *; omega)), (by first | assumption | omega | (simp at *; omega))⟩
    omega
  ·
   try simp only [BS] at f7
   refine wR 1 [(0, .o (.bool true))] 12 12 [104] [(12, (.bool true))] (vA (ex_c_q 15 (HS.call c7) hT) trivial) rfl fun _ => ?_
   refine ag ⟨.inr rfl, _, rfl, true, _, (fT (fT (g0) dt) dv), (HS.forget c7), rfl, (by first | rfl | simp)⟩
end Go.Proofs.YtlabedbmgmfbaaaDoor.lm
