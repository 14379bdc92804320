/-
 Which virtual code is valid: the program and the reference, each by a symbolic run. No condition but that the table lies as laid.
-/
import Derived.Test.YtknafdcgpaejlaaDoorZAM2
noncomputable section
namespace Go.Proofs.YtknafdcgpaejlaaDoor.m3
open Go.R
set_option maxRecDepth 10000
set_option linter.unusedVariables false
open m1 m2
theorem cBlk_c (ex : FuncId) (n : Int) {z : Option Addr} {A : Nat} {b_c : Nat} (c : VFnT) (H : Heap) (hn : in64 n) (hc_c : HC H.get b_c 0 [(.int .i64 c.params), (.int .i64 c.regs), (.slice z c.blocks.length A)]) (E : in64 c.params) (I : in64 c.regs) : C Tryd.prog 1 (KT 60 ex 37 tabC) 90 [(.int .i64 n), (.pointer (some ⟨b_c, 0, none⟩))] H fun v H' => ∃ (r : Bool), H' = H ∧ v = .bool r ∧ r = regOK (c.blocks.length : Int) n := by
 refine c_enter Tryd.func90 rfl rfl ?_
 refine wk_foc 1 rfl ?_
 refine wr 2 [] 3 3 [] [(3, (.bool false))] trivial (by kernel_rfl) rfl fun _ => ?_
 refine wr 1 [(5, .o (.slice z c.blocks.length A))] 3 12 [] [(3, (.bool ((decide ((0 : Int) ≤ n)) && (decide (n < (c.blocks.length : Int))))))] (vA (fun (J : (decide ((0 : Int) ≤ n)) = true) => (ql 22 2 hc_c rfl rfl)) trivial) (by kernel_rfl) rfl fun _ => ?_
 refine wk_ret ⟨.inr rfl, _, rfl, ((decide ((0 : Int) ≤ n)) && (decide (n < (c.blocks.length : Int)))), rfl, rfl, (by rw [Bool.eq_iff_iff, regOK_iff]; simp)⟩
theorem cBlk_c_q (ex : FuncId) (n : Int) {z : Option Addr} {I : Nat} {b_c : Nat} (c : VFnT) (H : Heap) (hn : in64 n) (hc_c : HC H.get b_c 0 [(.int .i64 c.params), (.int .i64 c.regs), (.slice z c.blocks.length I)]) (A : in64 c.params) (E : in64 c.regs) : C Tryd.prog 1 (KT 60 ex 37 tabC) 90 [(.int .i64 n), (.pointer (some ⟨b_c, 0, none⟩))] H fun v H' => v = (.bool (regOK (c.blocks.length : Int) n)) ∧ H' = H :=
 cq (cBlk_c ex n c H hn hc_c A E) (by rintro _ _ ⟨_, rfl, rfl, rfl⟩; exact ⟨rfl, rfl⟩)
theorem cReg_c (ex : FuncId) (n : Int) {z : Option Addr} {A : Nat} {b_c : Nat} (c : VFnT) (H : Heap) (hn : in64 n) (hc_c : HC H.get b_c 0 [(.int .i64 c.params), (.int .i64 c.regs), (.slice z c.blocks.length A)]) (E : in64 c.params) (I : in64 c.regs) : C Tryd.prog 1 (KT 60 ex 37 tabC) 91 [(.int .i64 n), (.pointer (some ⟨b_c, 0, none⟩))] H fun v H' => ∃ (r : Bool), H' = H ∧ v = .bool r ∧ r = regOK c.regs n := by
 refine c_enter Tryd.func91 rfl rfl ?_
 refine wk_foc 1 rfl ?_
 refine wr 2 [] 3 3 [] [(3, (.bool false))] trivial (by kernel_rfl) rfl fun _ => ?_
 refine wr 1 [(5, .o (.int .i64 c.regs))] 3 11 [] [(3, (.bool ((decide ((0 : Int) ≤ n)) && (decide (n < c.regs)))))] (vA (fun (J : (decide ((0 : Int) ≤ n)) = true) => (ql 3 1 hc_c rfl rfl)) trivial) (by kernel_rfl) rfl fun _ => ?_
 refine wk_ret ⟨.inr rfl, _, rfl, ((decide ((0 : Int) ≤ n)) && (decide (n < c.regs))), rfl, rfl, (by rw [Bool.eq_iff_iff, regOK_iff]; simp)⟩
theorem cReg_c_q (ex : FuncId) (n : Int) {z : Option Addr} {I : Nat} {b_c : Nat} (c : VFnT) (H : Heap) (hn : in64 n) (hc_c : HC H.get b_c 0 [(.int .i64 c.params), (.int .i64 c.regs), (.slice z c.blocks.length I)]) (A : in64 c.params) (E : in64 c.regs) : C Tryd.prog 1 (KT 60 ex 37 tabC) 91 [(.int .i64 n), (.pointer (some ⟨b_c, 0, none⟩))] H fun v H' => v = (.bool (regOK c.regs n)) ∧ H' = H :=
 cq (cReg_c ex n c H hn hc_c A E) (by rintro _ _ ⟨_, rfl, rfl, rfl⟩; exact ⟨rfl, rfl⟩)
theorem cRegI_c (ex : FuncId) (n : Int) {z : Option Addr} {A : Nat} {b_c : Nat} (c : VFnT) (H : Heap) (hn : in64 n) (hc_c : HC H.get b_c 0 [(.int .i64 c.params), (.int .i64 c.regs), (.slice z c.blocks.length A)]) (E : in64 c.params) (I : in64 c.regs) : C Tryd.prog 1 (KT 60 ex 37 tabC) 130 [(.int .i64 n), (.pointer (some ⟨b_c, 0, none⟩))] H fun v H' => ∃ (r : Bool), H' = H ∧ v = .bool r ∧ r = regOK c.regs n := by
 refine c_enter Tryd.func130 rfl rfl ?_
 refine wk_foc 1 rfl ?_
 refine wr 2 [] 3 3 [] [(3, (.bool false))] trivial (by kernel_rfl) rfl fun _ => ?_
 refine wr 1 [(5, .o (.int .i64 c.regs))] 3 11 [] [(3, (.bool ((decide ((0 : Int) ≤ n)) && (decide (n < c.regs)))))] (vA (fun (J : (decide ((0 : Int) ≤ n)) = true) => (ql 3 1 hc_c rfl rfl)) trivial) (by kernel_rfl) rfl fun _ => ?_
 refine wk_ret ⟨.inr rfl, _, rfl, ((decide ((0 : Int) ≤ n)) && (decide (n < c.regs))), rfl, rfl, (by rw [Bool.eq_iff_iff, regOK_iff]; simp)⟩
theorem cRegI_c_q (ex : FuncId) (n : Int) {z : Option Addr} {I : Nat} {b_c : Nat} (c : VFnT) (H : Heap) (hn : in64 n) (hc_c : HC H.get b_c 0 [(.int .i64 c.params), (.int .i64 c.regs), (.slice z c.blocks.length I)]) (A : in64 c.params) (E : in64 c.regs) : C Tryd.prog 1 (KT 60 ex 37 tabC) 130 [(.int .i64 n), (.pointer (some ⟨b_c, 0, none⟩))] H fun v H' => v = (.bool (regOK c.regs n)) ∧ H' = H :=
 cq (cRegI_c ex n c H hn hc_c A E) (by rintro _ _ ⟨_, rfl, rfl, rfl⟩; exact ⟨rfl, rfl⟩)
theorem vform_c (ex : FuncId) (op : Int) {F : Fz} {H : Heap} {R : List Fp} (hs : HS (.of H []) F H [] R) (hop : in64 op) (hT : TB 37 tabC F) : C Tryd.prog 1 (KT 60 ex 37 tabC) 131 [(.int .i64 op)] H fun v H' => ∃ (r : Int) (F' : Fz), Fz.le F F' ∧ HS (.of H []) F' H' [] R ∧ v = .int .i64 r ∧ r = vformV op := by
 refine c_enter Tryd.func131 rfl rfl ?_
 refine wk_foc 1 rfl ?_
 refine wr 3 [] 2 2 [] [(2, (.int .i64 0))] trivial (by kernel_rfl) rfl fun _ => ?_
 refine wr 1 [] 5 6 [] [(6, (.bool (op == 38)))] trivial (by kernel_rfl) rfl fun _ => ?_
 refine wk_if 1 2 (v := (op == 38)) rfl rfl rfl rfl (fun E => ?_) (fun E => ?_)
 ·
  have J := E
  try simp only [BS] at J
  refine wr 1 [] 2 2 [] [(2, (.int .i64 5))] trivial (by kernel_rfl) rfl fun _ => ?_
  refine wk_ret ⟨.inr rfl, _, rfl, 5, _, (Fz.le_refl _), (HS.forget hs), rfl, (by unfold vformV; split <;> first | rfl | omega)⟩
 ·
  have J := E
  try simp only [BS] at J
  refine wk_region ?_
  refine wm (.int .i64 op) rfl rfl rfl ?_
  refine wo_call (ap_call rfl rfl rfl) rfl rfl (m1.mInfo_c ex op (HS.call hs) (by omega) hT) ?_
  rintro _ Y ⟨x5, o5, V, O, z, rfl, T, U, rfl, rfl⟩
  replace z := HS.back hs rfl z
  have z : HS _ _ _ [] _ := z
  refine wro 3 2 [] 10 11 [7] [(10, (.agg ⟨[(.string ⟨⟨(infV op).name.b⟩⟩), (.int .i64 (infV op).form), (.bool (infV op).ra), (.bool (infV op).wa), (.bool (infV op).rb), (.bool (infV op).mt), (.int .i64 (infV op).words)]⟩)), (11, (.bool (infO op)))] trivial (by kernel_rfl) rfl fun _ => ?_
  refine wo_rs (rs_new z rfl) rfl rfl ?_
  rintro _ Z _ ⟨N, rfl, I, _⟩
  have I : HS _ _ _ [[(N, .cells [(.string ⟨⟨[]⟩⟩), (.int .i64 0), (.bool false), (.bool false), (.bool false), (.bool false), (.int .i64 0)] none false)]] _ := I
  refine wo_rk (rs_rec (q := 0) I rfl rfl rfl rfl rfl rfl rfl rfl rfl) rfl ?_
  rintro _ H9 _ ⟨A, _⟩
  have A : HS _ _ _ [[(N, .cells [(.string ⟨⟨(infV op).name.b⟩⟩), (.int .i64 (infV op).form), (.bool (infV op).ra), (.bool (infV op).wa), (.bool (infV op).rb), (.bool (infV op).mt), (.int .i64 (infV op).words)] none false)]] _ := A
  refine wa (.bool (infO op)) rfl rfl rfl ?_
  refine wo_end 2 rfl ?_
  refine wr 1 [(1, .o (.int .i64 (infV op).form))] 12 13 [2] [(2, (.int .i64 (infV op).form))] (vA (ql 3 1 (HS.hc A (i := 0) rfl) rfl rfl) trivial) (by kernel_rfl) rfl fun _ => ?_
  refine wk_ret ⟨.inr rfl, _, rfl, (infV op).form, _, (O), (HS.forget A), rfl, (by unfold vformV; split <;> first | rfl | omega)⟩
set_option maxHeartbeats 1000000 in
theorem vinstr_c (ex : FuncId) {aa : Option Addr} {ad : Nat} (c : VFnT) {E : Option Addr} {I : Nat} (iv : VInT) {F : Fz} {H : Heap} {R : List Fp} (hs : HS (.of H []) F H [] R) (a7 : in64 c.params) (a8 : in64 c.regs) (a9 : SR F (.slice aa c.blocks.length ad) c.blocks) (a0 : in64 iv.i.op) (a1 : in64 iv.i.a) (a2 : in64 iv.i.b) (a3 : in64 iv.i.c) (a4 : in64 iv.i.n) (Y : SR F (.slice E iv.args.length I) iv.args) (hT : TB 37 tabC F) : C Tryd.prog 1 (KT 60 ex 37 tabC) 92 [(.agg ⟨[(.int .i64 c.params), (.int .i64 c.regs), (.slice aa c.blocks.length ad)]⟩), (.agg ⟨[(.int .i64 iv.i.op), (.int .i64 iv.i.a), (.int .i64 iv.i.b), (.int .i64 iv.i.c), (.int .i64 iv.i.n), (.slice E iv.args.length I)]⟩)] H fun v H' => ∃ (r : Bool) (F' : Fz), Fz.le F F' ∧ HS (.of H []) F' H' [] R ∧ v = .bool r ∧ r = vinV c.params c.regs iv := by
 refine c_enter Tryd.func92 rfl rfl ?_
 refine wk_foc 1 rfl ?_
 refine wk_region ?_
 refine wo_rs (rs_box hs rfl rfl) rfl rfl ?_
 rintro _ H2 _ ⟨b1, rfl, aQ, _⟩
 have aQ : HS _ _ _ [[(b1, .cells [(.int .i64 c.params), (.int .i64 c.regs), (.slice aa c.blocks.length ad)] none false)]] _ := aQ
 refine wo_rs (rs_box aQ rfl rfl) rfl rfl ?_
 rintro _ H4 _ ⟨b3, rfl, aA, _⟩
 have aA : HS _ _ _ [_, [(b3, .cells [(.int .i64 iv.i.op), (.int .i64 iv.i.a), (.int .i64 iv.i.b), (.int .i64 iv.i.c), (.int .i64 iv.i.n), (.slice E iv.args.length I)] none false)]] _ := aA
 refine wa (.bool false) rfl rfl rfl ?_
 refine wo_end 2 rfl ?_
 refine wk_region ?_
 refine wro 2 0 [(1, .o (.agg ⟨[(.int .i64 iv.i.op), (.int .i64 iv.i.a), (.int .i64 iv.i.b), (.int .i64 iv.i.c), (.int .i64 iv.i.n)]⟩))] 13 14 [] [(14, (.agg ⟨[(.int .i64 iv.i.op), (.int .i64 iv.i.a), (.int .i64 iv.i.b), (.int .i64 iv.i.c), (.int .i64 iv.i.n)]⟩))] (vA (qn 50 0 5 (HS.hc aA (i := 1) rfl) rfl rfl rfl rfl) trivial) (by kernel_rfl) rfl fun _ => ?_
 refine wo_rs (rs_new aA rfl) rfl rfl ?_
 rintro _ H7 _ ⟨b6, rfl, aR, _⟩
 have aR : HS _ _ _ [_, _, [(b6, .cells [(.int .i64 0), (.int .i64 0), (.int .i64 0), (.int .i64 0), (.int .i64 0)] none false)]] _ := aR
 refine wo_rk (rs_rec (q := 2) aR rfl rfl rfl rfl rfl rfl rfl rfl rfl) rfl ?_
 rintro _ H8 _ ⟨U, _⟩
 have U : HS _ _ _ [_, _, [(b6, .cells [(.int .i64 iv.i.op), (.int .i64 iv.i.a), (.int .i64 iv.i.b), (.int .i64 iv.i.c), (.int .i64 iv.i.n)] none false)]] _ := U
 refine wo_end 3 rfl ?_
 refine wr 1 [(1, .o (.int .i64 iv.i.op)), (2, .o (.bool (alV iv.i.op))), (6, .o (.slice E iv.args.length I)), (12, .o (.int .i64 iv.i.op)), (16, .o (.slice E iv.args.length I))] 15 35 [] [(35, (.bool (((!(alV iv.i.op)) || (decide ((6 : Int) < (iv.args.length : Int)))) || ((iv.i.op != 6) && (decide ((0 : Int) < (iv.args.length : Int)))))))] (vA (ql 3 0 (HS.hc U (i := 2) rfl) rfl rfl) (vA (m1.valw_c_q ex iv.i.op H8) (vA (fun (A : (!(alV iv.i.op)) = false) => (ql 25 5 (HS.hc U (i := 1) rfl) rfl rfl)) (vA (fun (A : ((!(alV iv.i.op)) || (decide ((6 : Int) < (iv.args.length : Int)))) = false) => (ql 3 0 (HS.hc U (i := 2) rfl) rfl rfl)) (vA (fun (A : (iv.i.op != 6) = true) (T : ((!(alV iv.i.op)) || (decide ((6 : Int) < (iv.args.length : Int)))) = false) => (ql 25 5 (HS.hc U (i := 1) rfl) rfl rfl)) trivial))))) (by kernel_rfl) rfl fun _ => ?_
 refine wk_if 1 2 (v := (((!(alV iv.i.op)) || (decide ((6 : Int) < (iv.args.length : Int)))) || ((iv.i.op != 6) && (decide ((0 : Int) < (iv.args.length : Int)))))) rfl rfl rfl rfl (fun aj => ?_) (fun aj => ?_)
 ·
  have ag := aj
  try simp only [BS] at ag
  have hbad := ag
  refine wr 1 [] 4 4 [] [(4, (.bool false))] trivial (by kernel_rfl) rfl fun _ => ?_
  refine wk_ret ⟨.inr rfl, _, rfl, false, _, (Fz.le_refl _), (HS.forget U), rfl, (by exact vin_bad hbad)⟩
 ·
  have ag := aj
  try simp only [BS] at ag
  have hal : alV iv.i.op = true := (ag).1.1
  have h6 : iv.i.op = 6 ∨ iv.args.length = 0 := by omega
  have aT : iv.args.length ≤ 6 := by omega
  refine wr 3 [] 36 36 [6] [(6, (.func (.func 130) #[] #[(.pointer (some ⟨b1, 0, none⟩))]))] trivial (by kernel_rfl) rfl fun _ => ?_
  refine wr 2 [(1, .o (.slice E iv.args.length I))] 37 40 [] [(38, (.slice E iv.args.length I)), (39, (.int .i64 (iv.args.length : Int))), (40, (.int .i64 0))] (vA (ql 25 5 (HS.hc U (i := 1) rfl) rfl rfl) trivial) (by kernel_rfl) rfl fun _ => ?_
  refine wk_loop_inv (fun (mm : Nat) f H' => ∃ (k : Nat) (F' : Fz), Fz.le F F' ∧ HS (Base.of H []) F' H' [[(b1, .cells [(.int .i64 c.params), (.int .i64 c.regs), (.slice aa c.blocks.length ad)] none false)], [(b3, .cells [(.int .i64 iv.i.op), (.int .i64 iv.i.a), (.int .i64 iv.i.b), (.int .i64 iv.i.c), (.int .i64 iv.i.n), (.slice E iv.args.length I)] none false)], [(b6, .cells [(.int .i64 iv.i.op), (.int .i64 iv.i.a), (.int .i64 iv.i.b), (.int .i64 iv.i.c), (.int .i64 iv.i.n)] none false)]] R ∧ agrees f [(2, (.pointer (some ⟨b1, 0, none⟩))), (5, (.pointer (some ⟨b6, 0, none⟩))), (6, (.func (.func 130) #[] #[(.pointer (some ⟨b1, 0, none⟩))])), (38, (.slice E iv.args.length I)), (39, (.int .i64 (iv.args.length : Int))), (40, (.int .i64 (k : Int)))] ∧ mm = iv.args.length - k ∧ (k ≤ iv.args.length) ∧ (∀ j, j < k → regOK c.regs (iv.args.getD j default) = true)) _ ⟨0, _, (Fz.le_refl _), U, (agC rfl (agC rfl (agC rfl (agC rfl (agC rfl (agC rfl agN)))))), rfl, (by first | assumption | omega | (simp at *; omega)), (by exact upto_zero)⟩ ?_
  rintro ba bd aV ⟨k, bb, J, N, aO, rfl, hk, ha⟩ aU
  refine wk_canon _ aO (fun _ => ?_)
  clear aO
  replace hT := hT.mono J
  replace Y := Y.mono J
  refine wk_foc 1 rfl ?_
  refine wr 2 [] 41 41 [] [(41, (.bool (decide ((k : Int) < (iv.args.length : Int)))))] trivial (by kernel_rfl) rfl fun _ => ?_
  refine wk_if 4 5 (v := (decide ((k : Int) < (iv.args.length : Int)))) rfl rfl rfl rfl (fun ak => ?_) (fun ak => ?_)
  ·
   have aC := ak
   try simp only [BS] at aC
   obtain ⟨a6, aS⟩ := Sv.view (SR.sv Y N)
   have bf := fI (aS k)
   refine wr 2 [(1, .o (.int .i64 (iv.args.getD k 0)))] 42 43 [8] [(8, (.int .i64 (iv.args.getD k 0)))] (vA (Sv.ix (j := (k : Int)) (SR.sv Y N) (by omega) (by omega)) (vA (ql 3 0 (vI (aS k) (by omega)) rfl rfl) trivial)) (by kernel_rfl) rfl fun _ => ?_
   refine wr 1 [(2, .o (.bool (regOK (⟨c.params, c.regs, c.blocks⟩ : VFnT).regs (iv.args.getD k 0))))] 44 47 [] [(47, (.bool (!(regOK (⟨c.params, c.regs, c.blocks⟩ : VFnT).regs (iv.args.getD k 0)))))] (vA (cRegI_c_q ex (iv.args.getD k 0) (⟨c.params, c.regs, c.blocks⟩ : VFnT) aV (by omega) (HS.hc N (i := 0) rfl) (by omega) (by omega)) trivial) (by kernel_rfl) rfl fun _ => ?_
   refine wk_if 1 2 (v := (!(regOK (⟨c.params, c.regs, c.blocks⟩ : VFnT).regs (iv.args.getD k 0)))) rfl rfl rfl rfl (fun al => ?_) (fun al => ?_)
   ·
    have az := al
    try simp only [BS] at az
    have aY := az
    refine wr 1 [] 4 4 [] [(4, (.bool false))] trivial (by kernel_rfl) rfl fun _ => ?_
    refine wk_ret ⟨.inr rfl, _, rfl, false, _, (J), (HS.forget N), rfl, (by exact vin_no (all_not (by omega) aY))⟩
   ·
    have az := al
    try simp only [BS] at az
    refine wr 1 [] 40 40 [48] [(40, (.int .i64 ((k : Int) + 1)))] (vA (vi (n := (k : Int) + 1) (by omega)) trivial) (by kernel_rfl) rfl fun _ => ?_
    refine aU _ _ _ ?_ ⟨k + 1, _, (J), N, (agC rfl (agC rfl (agC rfl (agC rfl (agC rfl (agC rfl agN)))))), rfl, (by first | assumption | omega | (simp at *; omega)), (by exact upto_succ ha (by assumption))⟩
    omega
  ·
   have aC := ak
   try simp only [BS] at aC
   have hall := upto_all ha (by omega)
   refine wr 3 [] 1 0 [9, 10, 11, 12] [(9, (.bool false)), (10, (.bool false)), (11, (.bool false)), (12, (.bool false))] trivial (by kernel_rfl) rfl fun _ => ?_
   refine wk_region ?_
   refine wro 2 0 [(1, .o (.int .i64 iv.i.op))] 49 50 [] [(50, (.int .i64 iv.i.op))] (vA (ql 3 0 (HS.hc N (i := 2) rfl) rfl rfl) trivial) (by kernel_rfl) rfl fun _ => ?_
   refine wo_call (ap_call rfl rfl rfl) rfl rfl (vform_c ex iv.i.op (HS.call N) (by omega) hT) ?_
   rintro _ ae ⟨bg, bc, O, z, rfl, rfl⟩
   replace z := HS.back N rfl z
   have z : HS _ _ _ [_, _, _] _ := z
   refine wo_end 3 rfl ?_
   refine wr 1 [] 52 53 [] [(52, (.bool (vformV iv.i.op == 2)))] trivial (by kernel_rfl) rfl fun _ => ?_
   refine wk_join (fun f H' => ∃ (av : Bool) (bv : Bool) (dv : Bool) (nv : Bool), H' = ae ∧ agrees f [(2, (.pointer (some ⟨b1, 0, none⟩))), (5, (.pointer (some ⟨b6, 0, none⟩))), (6, (.func (.func 130) #[] #[(.pointer (some ⟨b1, 0, none⟩))])), (9, (.bool av)), (10, (.bool bv)), (11, (.bool dv)), (12, (.bool nv))] ∧ (av = decide (vformV iv.i.op ≠ 1)) ∧ (bv = decide (vformV iv.i.op = 3 ∨ vformV iv.i.op = 4 ∨ vformV iv.i.op = 7)) ∧ (dv = decide (vformV iv.i.op = 4)) ∧ (nv = decide (vformV iv.i.op = 5 ∨ vformV iv.i.op = 7))) (fun V => ?_) ?_
   ·
    refine wk_if 0 1 (v := (vformV iv.i.op == 2)) rfl rfl rfl rfl (fun am => ?_) (fun am => ?_)
    ·
     have aD := am
     try simp only [BS] at aD
     refine wr 0 [] 1 0 [9] [(9, (.bool true))] trivial (by kernel_rfl) rfl fun _ => ?_
     exact V _ _ ⟨true, false, false, false, rfl, (agC rfl (agC rfl (agC rfl (agC rfl (agC rfl (agC rfl (agC rfl agN))))))), (by first | (symm; apply decide_eq_true; omega) | (symm; apply decide_eq_false; have hf := vform_cases hal; omega)), (by first | (symm; apply decide_eq_true; omega) | (symm; apply decide_eq_false; have hf := vform_cases hal; omega)), (by first | (symm; apply decide_eq_true; omega) | (symm; apply decide_eq_false; have hf := vform_cases hal; omega)), (by first | (symm; apply decide_eq_true; omega) | (symm; apply decide_eq_false; have hf := vform_cases hal; omega))⟩
    ·
     have aD := am
     try simp only [BS] at aD
     refine wr 1 [] 54 55 [] [(54, (.bool (vformV iv.i.op == 3)))] trivial (by kernel_rfl) rfl fun _ => ?_
     refine wk_if 0 1 (v := (vformV iv.i.op == 3)) rfl rfl rfl rfl (fun an => ?_) (fun an => ?_)
     ·
      have aE := an
      try simp only [BS] at aE
      refine wr 0 [] 1 0 [9, 10] [(9, (.bool true)), (10, (.bool true))] trivial (by kernel_rfl) rfl fun _ => ?_
      exact V _ _ ⟨true, true, false, false, rfl, (agC rfl (agC rfl (agC rfl (agC rfl (agC rfl (agC rfl (agC rfl agN))))))), (by first | (symm; apply decide_eq_true; omega) | (symm; apply decide_eq_false; have hf := vform_cases hal; omega)), (by first | (symm; apply decide_eq_true; omega) | (symm; apply decide_eq_false; have hf := vform_cases hal; omega)), (by first | (symm; apply decide_eq_true; omega) | (symm; apply decide_eq_false; have hf := vform_cases hal; omega)), (by first | (symm; apply decide_eq_true; omega) | (symm; apply decide_eq_false; have hf := vform_cases hal; omega))⟩
     ·
      have aE := an
      try simp only [BS] at aE
      refine wr 1 [] 56 57 [] [(56, (.bool (vformV iv.i.op == 4)))] trivial (by kernel_rfl) rfl fun _ => ?_
      refine wk_if 0 1 (v := (vformV iv.i.op == 4)) rfl rfl rfl rfl (fun ap => ?_) (fun ap => ?_)
      ·
       have aF := ap
       try simp only [BS] at aF
       refine wr 0 [] 1 0 [9, 10, 11] [(9, (.bool true)), (10, (.bool true)), (11, (.bool true))] trivial (by kernel_rfl) rfl fun _ => ?_
       exact V _ _ ⟨true, true, true, false, rfl, (agC rfl (agC rfl (agC rfl (agC rfl (agC rfl (agC rfl (agC rfl agN))))))), (by first | (symm; apply decide_eq_true; omega) | (symm; apply decide_eq_false; have hf := vform_cases hal; omega)), (by first | (symm; apply decide_eq_true; omega) | (symm; apply decide_eq_false; have hf := vform_cases hal; omega)), (by first | (symm; apply decide_eq_true; omega) | (symm; apply decide_eq_false; have hf := vform_cases hal; omega)), (by first | (symm; apply decide_eq_true; omega) | (symm; apply decide_eq_false; have hf := vform_cases hal; omega))⟩
      ·
       have aF := ap
       try simp only [BS] at aF
       refine wr 1 [] 58 59 [] [(58, (.bool (vformV iv.i.op == 5)))] trivial (by kernel_rfl) rfl fun _ => ?_
       refine wk_if 0 1 (v := (vformV iv.i.op == 5)) rfl rfl rfl rfl (fun aq => ?_) (fun aq => ?_)
       ·
        have aG := aq
        try simp only [BS] at aG
        refine wr 0 [] 1 0 [9, 12] [(9, (.bool true)), (12, (.bool true))] trivial (by kernel_rfl) rfl fun _ => ?_
        exact V _ _ ⟨true, false, false, true, rfl, (agC rfl (agC rfl (agC rfl (agC rfl (agC rfl (agC rfl (agC rfl agN))))))), (by first | (symm; apply decide_eq_true; omega) | (symm; apply decide_eq_false; have hf := vform_cases hal; omega)), (by first | (symm; apply decide_eq_true; omega) | (symm; apply decide_eq_false; have hf := vform_cases hal; omega)), (by first | (symm; apply decide_eq_true; omega) | (symm; apply decide_eq_false; have hf := vform_cases hal; omega)), (by first | (symm; apply decide_eq_true; omega) | (symm; apply decide_eq_false; have hf := vform_cases hal; omega))⟩
       ·
        have aG := aq
        try simp only [BS] at aG
        refine wr 1 [] 60 61 [] [(60, (.bool (vformV iv.i.op == 7)))] trivial (by kernel_rfl) rfl fun _ => ?_
        refine wk_if 0 0 (v := (vformV iv.i.op == 7)) rfl rfl rfl rfl (fun ar => ?_) (fun ar => ?_)
        ·
         have aH := ar
         try simp only [BS] at aH
         refine wr 0 [] 1 0 [9, 10, 12] [(9, (.bool true)), (10, (.bool true)), (12, (.bool true))] trivial (by kernel_rfl) rfl fun _ => ?_
         exact V _ _ ⟨true, true, false, true, rfl, (agC rfl (agC rfl (agC rfl (agC rfl (agC rfl (agC rfl (agC rfl agN))))))), (by first | (symm; apply decide_eq_true; omega) | (symm; apply decide_eq_false; have hf := vform_cases hal; omega)), (by first | (symm; apply decide_eq_true; omega) | (symm; apply decide_eq_false; have hf := vform_cases hal; omega)), (by first | (symm; apply decide_eq_true; omega) | (symm; apply decide_eq_false; have hf := vform_cases hal; omega)), (by first | (symm; apply decide_eq_true; omega) | (symm; apply decide_eq_false; have hf := vform_cases hal; omega))⟩
        ·
         have aH := ar
         try simp only [BS] at aH
         exact V _ _ ⟨false, false, false, false, rfl, (agC rfl (agC rfl (agC rfl (agC rfl (agC rfl (agC rfl (agC rfl agN))))))), (by first | (symm; apply decide_eq_true; omega) | (symm; apply decide_eq_false; have hf := vform_cases hal; omega)), (by first | (symm; apply decide_eq_true; omega) | (symm; apply decide_eq_false; have hf := vform_cases hal; omega)), (by first | (symm; apply decide_eq_true; omega) | (symm; apply decide_eq_false; have hf := vform_cases hal; omega)), (by first | (symm; apply decide_eq_true; omega) | (symm; apply decide_eq_false; have hf := vform_cases hal; omega))⟩
   ·
    rintro be ae ⟨av, bv, dv, nv, rfl, aP, hav, hbv, hdv, hnv⟩
    refine wk_canon _ aP (fun _ => ?_)
    clear aP
    refine wk_foc 4 rfl ?_
    refine wr 1 [(4, .o (.int .i64 iv.i.a)), (5, .o (.bool (regOK (⟨c.params, c.regs, c.blocks⟩ : VFnT).regs iv.i.a))), (13, .o (.int .i64 iv.i.b)), (14, .o (.bool (regOK (⟨c.params, c.regs, c.blocks⟩ : VFnT).regs iv.i.b))), (23, .o (.int .i64 iv.i.c)), (24, .o (.bool (regOK (⟨c.params, c.regs, c.blocks⟩ : VFnT).regs iv.i.c))), (33, .o (.int .i64 iv.i.a)), (42, .o (.int .i64 iv.i.b)), (51, .o (.int .i64 iv.i.c)), (60, .o (.int .i64 iv.i.n))] 62 125 [] [(125, (.bool (((((((av && (!(regOK (⟨c.params, c.regs, c.blocks⟩ : VFnT).regs iv.i.a))) || (bv && (!(regOK (⟨c.params, c.regs, c.blocks⟩ : VFnT).regs iv.i.b)))) || (dv && (!(regOK (⟨c.params, c.regs, c.blocks⟩ : VFnT).regs iv.i.c)))) || ((!av) && (iv.i.a != 0))) || ((!bv) && (iv.i.b != 0))) || ((!dv) && (iv.i.c != 0))) || ((!nv) && (iv.i.n != 0)))))] (vA (fun (A : av = true) => (ql 3 1 (HS.hc z (i := 2) rfl) rfl rfl)) (vA (fun (A : av = true) => (cRegI_c_q ex iv.i.a (⟨c.params, c.regs, c.blocks⟩ : VFnT) ae (by (try simp only [BS] at A); omega) (HS.hc z (i := 0) rfl) (by (try simp only [BS] at A); omega) (by (try simp only [BS] at A); omega))) (vA (fun (A : bv = true) (T : (av && (!(regOK (⟨c.params, c.regs, c.blocks⟩ : VFnT).regs iv.i.a))) = false) => (ql 3 2 (HS.hc z (i := 2) rfl) rfl rfl)) (vA (fun (A : bv = true) (T : (av && (!(regOK (⟨c.params, c.regs, c.blocks⟩ : VFnT).regs iv.i.a))) = false) => (cRegI_c_q ex iv.i.b (⟨c.params, c.regs, c.blocks⟩ : VFnT) ae (by (try simp only [BS] at A T); omega) (HS.hc z (i := 0) rfl) (by (try simp only [BS] at A T); omega) (by (try simp only [BS] at A T); omega))) (vA (fun (A : dv = true) (T : ((av && (!(regOK (⟨c.params, c.regs, c.blocks⟩ : VFnT).regs iv.i.a))) || (bv && (!(regOK (⟨c.params, c.regs, c.blocks⟩ : VFnT).regs iv.i.b)))) = false) => (ql 3 3 (HS.hc z (i := 2) rfl) rfl rfl)) (vA (fun (A : dv = true) (T : ((av && (!(regOK (⟨c.params, c.regs, c.blocks⟩ : VFnT).regs iv.i.a))) || (bv && (!(regOK (⟨c.params, c.regs, c.blocks⟩ : VFnT).regs iv.i.b)))) = false) => (cRegI_c_q ex iv.i.c (⟨c.params, c.regs, c.blocks⟩ : VFnT) ae (by (try simp only [BS] at A T); omega) (HS.hc z (i := 0) rfl) (by (try simp only [BS] at A T); omega) (by (try simp only [BS] at A T); omega))) (vA (fun (A : (!av) = true) (T : (((av && (!(regOK (⟨c.params, c.regs, c.blocks⟩ : VFnT).regs iv.i.a))) || (bv && (!(regOK (⟨c.params, c.regs, c.blocks⟩ : VFnT).regs iv.i.b)))) || (dv && (!(regOK (⟨c.params, c.regs, c.blocks⟩ : VFnT).regs iv.i.c)))) = false) => (ql 3 1 (HS.hc z (i := 2) rfl) rfl rfl)) (vA (fun (A : (!bv) = true) (T : ((((av && (!(regOK (⟨c.params, c.regs, c.blocks⟩ : VFnT).regs iv.i.a))) || (bv && (!(regOK (⟨c.params, c.regs, c.blocks⟩ : VFnT).regs iv.i.b)))) || (dv && (!(regOK (⟨c.params, c.regs, c.blocks⟩ : VFnT).regs iv.i.c)))) || ((!av) && (iv.i.a != 0))) = false) => (ql 3 2 (HS.hc z (i := 2) rfl) rfl rfl)) (vA (fun (A : (!dv) = true) (T : (((((av && (!(regOK (⟨c.params, c.regs, c.blocks⟩ : VFnT).regs iv.i.a))) || (bv && (!(regOK (⟨c.params, c.regs, c.blocks⟩ : VFnT).regs iv.i.b)))) || (dv && (!(regOK (⟨c.params, c.regs, c.blocks⟩ : VFnT).regs iv.i.c)))) || ((!av) && (iv.i.a != 0))) || ((!bv) && (iv.i.b != 0))) = false) => (ql 3 3 (HS.hc z (i := 2) rfl) rfl rfl)) (vA (fun (A : (!nv) = true) (T : ((((((av && (!(regOK (⟨c.params, c.regs, c.blocks⟩ : VFnT).regs iv.i.a))) || (bv && (!(regOK (⟨c.params, c.regs, c.blocks⟩ : VFnT).regs iv.i.b)))) || (dv && (!(regOK (⟨c.params, c.regs, c.blocks⟩ : VFnT).regs iv.i.c)))) || ((!av) && (iv.i.a != 0))) || ((!bv) && (iv.i.b != 0))) || ((!dv) && (iv.i.c != 0))) = false) => (ql 2 4 (HS.hc z (i := 2) rfl) rfl rfl)) trivial)))))))))) (by kernel_rfl) rfl fun _ => ?_
    refine wk_if 1 3 (v := (((((((av && (!(regOK (⟨c.params, c.regs, c.blocks⟩ : VFnT).regs iv.i.a))) || (bv && (!(regOK (⟨c.params, c.regs, c.blocks⟩ : VFnT).regs iv.i.b)))) || (dv && (!(regOK (⟨c.params, c.regs, c.blocks⟩ : VFnT).regs iv.i.c)))) || ((!av) && (iv.i.a != 0))) || ((!bv) && (iv.i.b != 0))) || ((!dv) && (iv.i.c != 0))) || ((!nv) && (iv.i.n != 0)))) rfl rfl rfl rfl (fun Z => ?_) (fun Z => ?_)
    ·
     have aI := Z
     try simp only [BS] at aI
     have aZ := Z
     refine wr 1 [] 4 4 [] [(4, (.bool false))] trivial (by kernel_rfl) rfl fun _ => ?_
     refine wk_ret ⟨.inr rfl, _, rfl, false, _, (Fz.le_trans (J) O), (HS.forget z), rfl, (by exact vin_bad3v hal h6 aT hall hav hbv hdv hnv aZ)⟩
    ·
     have aI := Z
     try simp only [BS] at aI
     have hgood := vin_good3v (params := c.params) hal h6 aT hall hav hbv hdv hnv Z
     refine wr 3 [(1, .o (.int .i64 iv.i.op))] 126 127 [] [(127, (.int .i64 iv.i.op))] (vA (ql 3 0 (HS.hc z (i := 2) rfl) rfl rfl) trivial) (by kernel_rfl) rfl fun _ => ?_
     refine wr 1 [] 128 129 [] [(128, (.bool (iv.i.op == 33)))] trivial (by kernel_rfl) rfl fun _ => ?_
     refine wk_if 1 1 (v := (iv.i.op == 33)) rfl rfl rfl rfl (fun au => ?_) (fun au => ?_)
     ·
      have aJ := au
      try simp only [BS] at aJ
      refine wr 1 [(1, .o (.int .i64 iv.i.n)), (5, .o (.int .i64 iv.i.n))] 130 137 [4] [(4, (.bool ((decide ((-4194304 : Int) ≤ iv.i.n)) && (decide (iv.i.n < 4194304)))))] (vA (ql 2 4 (HS.hc z (i := 2) rfl) rfl rfl) (vA (fun (A : (decide ((-4194304 : Int) ≤ iv.i.n)) = true) => (ql 2 4 (HS.hc z (i := 2) rfl) rfl rfl)) trivial)) (by kernel_rfl) rfl fun _ => ?_
      refine wk_ret ⟨.inr rfl, _, rfl, ((decide ((-4194304 : Int) ≤ iv.i.n)) && (decide (iv.i.n < 4194304))), _, (Fz.le_trans (J) O), (HS.forget z), rfl, (by rw [hgood.1]; first | exact (imm_end hal hgood.2 (by omega) (by omega) (by omega) (by omega)).symm | (unfold immV; (repeat' split) <;> first | omega | rfl | (rw [Bool.eq_iff_iff] <;> simp)))⟩
     ·
      have aJ := au
      try simp only [BS] at aJ
      refine wr 1 [] 138 139 [] [(138, (.bool (iv.i.op == 6)))] trivial (by kernel_rfl) rfl fun _ => ?_
      refine wk_if 1 2 (v := (iv.i.op == 6)) rfl rfl rfl rfl (fun aw => ?_) (fun aw => ?_)
      ·
       have aK := aw
       try simp only [BS] at aK
       refine wr 1 [(1, .o (.int .i64 iv.i.n)), (5, .o (.int .i64 iv.i.n))] 140 147 [4] [(4, (.bool ((decide ((0 : Int) ≤ iv.i.n)) && (decide (iv.i.n < 8)))))] (vA (ql 2 4 (HS.hc z (i := 2) rfl) rfl rfl) (vA (fun (A : (decide ((0 : Int) ≤ iv.i.n)) = true) => (ql 2 4 (HS.hc z (i := 2) rfl) rfl rfl)) trivial)) (by kernel_rfl) rfl fun _ => ?_
       refine wk_ret ⟨.inr rfl, _, rfl, ((decide ((0 : Int) ≤ iv.i.n)) && (decide (iv.i.n < 8))), _, (Fz.le_trans (J) O), (HS.forget z), rfl, (by rw [hgood.1]; first | exact (imm_end hal hgood.2 (by omega) (by omega) (by omega) (by omega)).symm | (unfold immV; (repeat' split) <;> first | omega | rfl | (rw [Bool.eq_iff_iff] <;> simp)))⟩
      ·
       have aK := aw
       try simp only [BS] at aK
       refine wr 1 [] 148 149 [] [(148, (.bool (iv.i.op == 34)))] trivial (by kernel_rfl) rfl fun _ => ?_
       refine wk_if 1 0 (v := (iv.i.op == 34)) rfl rfl rfl rfl (fun ab => ?_) (fun ab => ?_)
       ·
        have aL := ab
        try simp only [BS] at aL
        refine wk_ift 1 (v := (iv.i.op == 34)) rfl ab rfl rfl ?_
        refine wr 1 [(1, .o (.int .i64 iv.i.n)), (5, .o (.int .i64 iv.i.n))] 151 158 [4] [(4, (.bool ((decide ((0 : Int) ≤ iv.i.n)) && (decide (iv.i.n < 4)))))] (vA (ql 2 4 (HS.hc z (i := 2) rfl) rfl rfl) (vA (fun (A : (decide ((0 : Int) ≤ iv.i.n)) = true) => (ql 2 4 (HS.hc z (i := 2) rfl) rfl rfl)) trivial)) (by kernel_rfl) rfl fun _ => ?_
        refine wk_ret ⟨.inr rfl, _, rfl, ((decide ((0 : Int) ≤ iv.i.n)) && (decide (iv.i.n < 4))), _, (Fz.le_trans (J) O), (HS.forget z), rfl, (by rw [hgood.1]; first | exact (imm_end hal hgood.2 (by omega) (by omega) (by omega) (by omega)).symm | (unfold immV; (repeat' split) <;> first | omega | rfl | (rw [Bool.eq_iff_iff] <;> simp)))⟩
       ·
        have aL := ab
        try simp only [BS] at aL
        refine wr 1 [] 148 150 [] [(148, (.bool (iv.i.op == 35)))] trivial (by kernel_rfl) rfl fun _ => ?_
        refine wk_if 1 1 (v := (iv.i.op == 35)) rfl rfl rfl rfl (fun ax => ?_) (fun ax => ?_)
        ·
         have aM := ax
         try simp only [BS] at aM
         refine wr 1 [(1, .o (.int .i64 iv.i.n)), (5, .o (.int .i64 iv.i.n))] 151 158 [4] [(4, (.bool ((decide ((0 : Int) ≤ iv.i.n)) && (decide (iv.i.n < 4)))))] (vA (ql 2 4 (HS.hc z (i := 2) rfl) rfl rfl) (vA (fun (A : (decide ((0 : Int) ≤ iv.i.n)) = true) => (ql 2 4 (HS.hc z (i := 2) rfl) rfl rfl)) trivial)) (by kernel_rfl) rfl fun _ => ?_
         refine wk_ret ⟨.inr rfl, _, rfl, ((decide ((0 : Int) ≤ iv.i.n)) && (decide (iv.i.n < 4))), _, (Fz.le_trans (J) O), (HS.forget z), rfl, (by rw [hgood.1]; first | exact (imm_end hal hgood.2 (by omega) (by omega) (by omega) (by omega)).symm | (unfold immV; (repeat' split) <;> first | omega | rfl | (rw [Bool.eq_iff_iff] <;> simp)))⟩
        ·
         have aM := ax
         try simp only [BS] at aM
         refine wr 1 [] 159 160 [] [(159, (.bool (iv.i.op == 38)))] trivial (by kernel_rfl) rfl fun _ => ?_
         refine wk_if 1 3 (v := (iv.i.op == 38)) rfl rfl rfl rfl (fun ay => ?_) (fun ay => ?_)
         ·
          have aN := ay
          try simp only [BS] at aN
          refine wr 1 [(1, .o (.int .i64 iv.i.n)), (5, .o (.int .i64 iv.i.n)), (7, .o (.int .i64 c.params))] 161 170 [4] [(4, (.bool ((decide ((0 : Int) ≤ iv.i.n)) && (decide (iv.i.n < c.params)))))] (vA (ql 2 4 (HS.hc z (i := 2) rfl) rfl rfl) (vA (fun (A : (decide ((0 : Int) ≤ iv.i.n)) = true) => (ql 2 4 (HS.hc z (i := 2) rfl) rfl rfl)) (vA (fun (A : (decide ((0 : Int) ≤ iv.i.n)) = true) => (ql 3 0 (HS.hc z (i := 0) rfl) rfl rfl)) trivial))) (by kernel_rfl) rfl fun _ => ?_
          refine wk_ret ⟨.inr rfl, _, rfl, ((decide ((0 : Int) ≤ iv.i.n)) && (decide (iv.i.n < c.params))), _, (Fz.le_trans (J) O), (HS.forget z), rfl, (by rw [hgood.1]; first | exact (imm_end hal hgood.2 (by omega) (by omega) (by omega) (by omega)).symm | (unfold immV; (repeat' split) <;> first | omega | rfl | (rw [Bool.eq_iff_iff] <;> simp)))⟩
         ·
          have aN := ay
          try simp only [BS] at aN
          refine wr 1 [] 4 4 [] [(4, (.bool true))] trivial (by kernel_rfl) rfl fun _ => ?_
          refine wk_ret ⟨.inr rfl, _, rfl, true, _, (Fz.le_trans (J) O), (HS.forget z), rfl, (by rw [hgood.1]; first | exact (imm_end hal hgood.2 (by omega) (by omega) (by omega) (by omega)).symm | (unfold immV; (repeat' split) <;> first | omega | rfl | (rw [Bool.eq_iff_iff] <;> simp)))⟩
set_option maxHeartbeats 1000000 in
theorem valid_c (ex : FuncId) {I : Option Addr} {J : Nat} (c : VFnT) {F : Fz} {H : Heap} {R : List Fp} (hs : HS (.of H []) F H [] R) (a7 : in64 c.params) (a8 : in64 c.regs) (Y : SR F (.slice I c.blocks.length J) c.blocks) (hT : TB 37 tabC F) (hv : ∀ j, (c.blocks.getD j default).ins.length ≤ 9223372036854775807) : C Tryd.prog 1 (KT 60 ex 37 tabC) 49 [(.agg ⟨[(.int .i64 c.params), (.int .i64 c.regs), (.slice I c.blocks.length J)]⟩)] H fun v H' => ∃ (r : Bool) (F' : Fz), Fz.le F F' ∧ HS (.of H []) F' H' [] R ∧ v = .bool r ∧ r = valV c := by
 refine c_enter Tryd.func49 rfl rfl ?_
 refine wk_foc 1 rfl ?_
 refine wk_region ?_
 refine wo_rs (rs_box hs rfl rfl) rfl rfl ?_
 rintro _ H2 _ ⟨b1, rfl, U, _⟩
 have U : HS _ _ _ [[(b1, .cells [(.int .i64 c.params), (.int .i64 c.regs), (.slice I c.blocks.length J)] none false)]] _ := U
 refine wa (.bool false) rfl rfl rfl ?_
 refine wo_end 3 rfl ?_
 refine wr 1 [(1, .o (.int .i64 c.params)), (5, .o (.int .i64 c.params)), (10, .o (.int .i64 c.regs)), (15, .o (.int .i64 c.regs)), (20, .o (.slice I c.blocks.length J)), (26, .o (.slice I c.blocks.length J))] 10 39 [] [(39, (.bool ((((((decide (c.params < 0)) || (decide ((6 : Int) < c.params))) || (decide (c.regs < 0))) || (decide ((3000 : Int) < c.regs))) || (decide ((c.blocks.length : Int) < 1))) || (decide ((1000 : Int) < (c.blocks.length : Int))))))] (vA (ql 3 0 (HS.hc U (i := 0) rfl) rfl rfl) (vA (fun (O : (decide (c.params < 0)) = false) => (ql 3 0 (HS.hc U (i := 0) rfl) rfl rfl)) (vA (fun (O : ((decide (c.params < 0)) || (decide ((6 : Int) < c.params))) = false) => (ql 3 1 (HS.hc U (i := 0) rfl) rfl rfl)) (vA (fun (O : (((decide (c.params < 0)) || (decide ((6 : Int) < c.params))) || (decide (c.regs < 0))) = false) => (ql 3 1 (HS.hc U (i := 0) rfl) rfl rfl)) (vA (fun (O : ((((decide (c.params < 0)) || (decide ((6 : Int) < c.params))) || (decide (c.regs < 0))) || (decide ((3000 : Int) < c.regs))) = false) => (ql 22 2 (HS.hc U (i := 0) rfl) rfl rfl)) (vA (fun (O : (((((decide (c.params < 0)) || (decide ((6 : Int) < c.params))) || (decide (c.regs < 0))) || (decide ((3000 : Int) < c.regs))) || (decide ((c.blocks.length : Int) < 1))) = false) => (ql 22 2 (HS.hc U (i := 0) rfl) rfl rfl)) trivial)))))) (by kernel_rfl) rfl fun _ => ?_
 refine wk_if 1 2 (v := ((((((decide (c.params < 0)) || (decide ((6 : Int) < c.params))) || (decide (c.regs < 0))) || (decide ((3000 : Int) < c.regs))) || (decide ((c.blocks.length : Int) < 1))) || (decide ((1000 : Int) < (c.blocks.length : Int))))) rfl rfl rfl rfl (fun aK => ?_) (fun aK => ?_)
 ·
  have c4 := aK
  try simp only [BS] at c4
  refine wr 1 [] 2 2 [] [(2, (.bool false))] trivial (by kernel_rfl) rfl fun _ => ?_
  refine wk_ret ⟨.inr rfl, _, rfl, false, _, (Fz.le_refl _), (HS.forget U), rfl, (by exact val_lim (by omega))⟩
 ·
  have c4 := aK
  try simp only [BS] at c4
  have hlim : 0 ≤ c.params ∧ c.params ≤ 6 ∧ 0 ≤ c.regs ∧ c.regs ≤ 3000 ∧ 1 ≤ c.blocks.length ∧ c.blocks.length ≤ 1000 := by omega
  refine wr 2 [] 40 40 [3] [(3, (.func (.func 90) #[] #[(.pointer (some ⟨b1, 0, none⟩))]))] trivial (by kernel_rfl) rfl fun _ => ?_
  refine wr 3 [] 41 41 [4] [(4, (.func (.func 91) #[] #[(.pointer (some ⟨b1, 0, none⟩))]))] trivial (by kernel_rfl) rfl fun _ => ?_
  refine wr 2 [(1, .o (.slice I c.blocks.length J))] 42 45 [] [(43, (.slice I c.blocks.length J)), (44, (.int .i64 (c.blocks.length : Int))), (45, (.int .i64 0))] (vA (ql 22 2 (HS.hc U (i := 0) rfl) rfl rfl) trivial) (by kernel_rfl) rfl fun _ => ?_
  refine wk_loop_inv (fun (mm : Nat) f H' => ∃ (k : Nat) (F' : Fz), Fz.le F F' ∧ HS (Base.of H []) F' H' [[(b1, .cells [(.int .i64 c.params), (.int .i64 c.regs), (.slice I c.blocks.length J)] none false)]] R ∧ agrees f [(1, (.pointer (some ⟨b1, 0, none⟩))), (3, (.func (.func 90) #[] #[(.pointer (some ⟨b1, 0, none⟩))])), (4, (.func (.func 91) #[] #[(.pointer (some ⟨b1, 0, none⟩))])), (43, (.slice I c.blocks.length J)), (44, (.int .i64 (c.blocks.length : Int))), (45, (.int .i64 (k : Int)))] ∧ mm = c.blocks.length - k ∧ (k ≤ c.blocks.length) ∧ (∀ j, j < k → blkV c.params c.regs (c.blocks.length : Int) (c.blocks.getD j default) = true)) _ ⟨0, _, (Fz.le_refl _), U, (agC rfl (agC rfl (agC rfl (agC rfl (agC rfl (agC rfl agN)))))), rfl, (by first | assumption | omega | (simp at *; omega)), (by exact upto_zero)⟩ ?_
  rintro bj f9 H9 ⟨k, F9, T, aE, aT, rfl, hk, ha⟩ aF
  refine wk_canon _ aT (fun _ => ?_)
  clear aT
  replace hT := hT.mono T
  replace Y := Y.mono T
  have hvk := hv k
  refine wk_foc 1 rfl ?_
  refine wr 2 [] 46 46 [] [(46, (.bool (decide ((k : Int) < (c.blocks.length : Int)))))] trivial (by kernel_rfl) rfl fun _ => ?_
  refine wk_if 4 5 (v := (decide ((k : Int) < (c.blocks.length : Int)))) rfl rfl rfl rfl (fun am => ?_) (fun am => ?_)
  ·
   have aG := am
   try simp only [BS] at aG
   refine wk_region ?_
   obtain ⟨A, aP⟩ := Sv.view (SR.sv Y aE)
   obtain ⟨aW, aX, aY, aZ, ab⟩ := BlkT.fx (aP k)
   refine wro 2 0 [(1, .o (.agg ⟨[(.slice (cA (A k) 0) (c.blocks.getD k default).ins.length (cK (A k) 0)), (.int .i64 (c.blocks.getD k default).fin), (.int .i64 (c.blocks.getD k default).reg), (.int .i64 (c.blocks.getD k default).tgt), (.int .i64 (c.blocks.getD k default).els)]⟩))] 47 48 [] [(48, (.agg ⟨[(.slice (cA (A k) 0) (c.blocks.getD k default).ins.length (cK (A k) 0)), (.int .i64 (c.blocks.getD k default).fin), (.int .i64 (c.blocks.getD k default).reg), (.int .i64 (c.blocks.getD k default).tgt), (.int .i64 (c.blocks.getD k default).els)]⟩))] (vA (Sv.ix (j := (k : Int)) (SR.sv Y aE) (by omega) (by omega)) (vA (qn 48 0 5 (BlkT.vw (aP k) (by omega)) rfl rfl rfl rfl) trivial)) (by kernel_rfl) rfl fun _ => ?_
   refine wo_rs (rs_new aE rfl) rfl rfl ?_
   rintro _ bc _ ⟨aC, rfl, aA, _⟩
   have aA : HS _ _ _ [_, [(aC, .cells [(.slice none 0 0), (.int .i64 0), (.int .i64 0), (.int .i64 0), (.int .i64 0)] none false)]] _ := aA
   refine wo_rk (rs_rec (q := 1) aA rfl rfl rfl rfl rfl rfl rfl rfl rfl) rfl ?_
   rintro _ bd _ ⟨ae, _⟩
   have ae : HS _ _ _ [_, [(aC, .cells [(.slice (cA (A k) 0) (c.blocks.getD k default).ins.length (cK (A k) 0)), (.int .i64 (c.blocks.getD k default).fin), (.int .i64 (c.blocks.getD k default).reg), (.int .i64 (c.blocks.getD k default).tgt), (.int .i64 (c.blocks.getD k default).els)] none false)]] _ := ae
   refine wo_end 3 rfl ?_
   refine wr 2 [(1, .o (.slice (cA (A k) 0) (c.blocks.getD k default).ins.length (cK (A k) 0)))] 49 52 [] [(50, (.slice (cA (A k) 0) (c.blocks.getD k default).ins.length (cK (A k) 0))), (51, (.int .i64 ((c.blocks.getD k default).ins.length : Int))), (52, (.int .i64 0))] (vA (ql 46 0 (HS.hc ae (i := 1) rfl) rfl rfl) trivial) (by kernel_rfl) rfl fun _ => ?_
   refine wk_loop_inv (fun (mm : Nat) f H' => ∃ (i : Nat) (F' : Fz), Fz.le F9 F' ∧ HS (Base.of H []) F' H' [[(b1, .cells [(.int .i64 c.params), (.int .i64 c.regs), (.slice I c.blocks.length J)] none false)], [(aC, .cells [(.slice (cA (A k) 0) (c.blocks.getD k default).ins.length (cK (A k) 0)), (.int .i64 (c.blocks.getD k default).fin), (.int .i64 (c.blocks.getD k default).reg), (.int .i64 (c.blocks.getD k default).tgt), (.int .i64 (c.blocks.getD k default).els)] none false)]] R ∧ agrees f [(1, (.pointer (some ⟨b1, 0, none⟩))), (3, (.func (.func 90) #[] #[(.pointer (some ⟨b1, 0, none⟩))])), (4, (.func (.func 91) #[] #[(.pointer (some ⟨b1, 0, none⟩))])), (6, (.pointer (some ⟨aC, 0, none⟩))), (43, (.slice I c.blocks.length J)), (44, (.int .i64 (c.blocks.length : Int))), (45, (.int .i64 (k : Int))), (46, (.bool (decide ((k : Int) < (c.blocks.length : Int))))), (48, (.agg ⟨[(.slice (cA (A k) 0) (c.blocks.getD k default).ins.length (cK (A k) 0)), (.int .i64 (c.blocks.getD k default).fin), (.int .i64 (c.blocks.getD k default).reg), (.int .i64 (c.blocks.getD k default).tgt), (.int .i64 (c.blocks.getD k default).els)]⟩)), (50, (.slice (cA (A k) 0) (c.blocks.getD k default).ins.length (cK (A k) 0))), (51, (.int .i64 ((c.blocks.getD k default).ins.length : Int))), (52, (.int .i64 (i : Int)))] ∧ mm = (c.blocks.getD k default).ins.length - i ∧ (i ≤ (c.blocks.getD k default).ins.length) ∧ (∀ j, j < i → vinV c.params c.regs ((c.blocks.getD k default).ins.getD j default) = true)) _ ⟨0, _, (Fz.le_refl _), ae, (agC rfl (agC rfl (agC rfl (agC rfl (agC rfl (agC rfl (agC rfl (agC rfl (agC rfl (agC rfl (agC rfl (agC rfl agN)))))))))))), rfl, (by first | assumption | omega | (simp at *; omega)), (by exact upto_zero)⟩ ?_
   rintro a9 bh ag ⟨i, ba, E, z, aO, rfl, hi, hb⟩ aV
   refine wk_canon _ aO (fun _ => ?_)
   clear aO
   replace hT := hT.mono E
   replace Y := Y.mono E
   replace ab := ab.mono E
   refine wk_foc 1 rfl ?_
   refine wr 2 [] 53 53 [] [(53, (.bool (decide ((i : Int) < ((c.blocks.getD k default).ins.length : Int)))))] trivial (by kernel_rfl) rfl fun _ => ?_
   refine wk_if 4 5 (v := (decide ((i : Int) < ((c.blocks.getD k default).ins.length : Int)))) rfl rfl rfl rfl (fun an => ?_) (fun an => ?_)
   ·
    have aH := an
    try simp only [BS] at aH
    refine wk_region ?_
    obtain ⟨N, aQ⟩ := Sv.view (SR.sv ab z)
    obtain ⟨a0, a1, a2, a3, a4, aR⟩ := VInT.fx (aQ i)
    refine wro 2 0 [(1, .o (.agg ⟨[(.int .i64 ((c.blocks.getD k default).ins.getD i default).i.op), (.int .i64 ((c.blocks.getD k default).ins.getD i default).i.a), (.int .i64 ((c.blocks.getD k default).ins.getD i default).i.b), (.int .i64 ((c.blocks.getD k default).ins.getD i default).i.c), (.int .i64 ((c.blocks.getD k default).ins.getD i default).i.n), (.slice (cA (N i) 5) ((c.blocks.getD k default).ins.getD i default).args.length (cK (N i) 5))]⟩))] 54 55 [] [(55, (.agg ⟨[(.int .i64 ((c.blocks.getD k default).ins.getD i default).i.op), (.int .i64 ((c.blocks.getD k default).ins.getD i default).i.a), (.int .i64 ((c.blocks.getD k default).ins.getD i default).i.b), (.int .i64 ((c.blocks.getD k default).ins.getD i default).i.c), (.int .i64 ((c.blocks.getD k default).ins.getD i default).i.n), (.slice (cA (N i) 5) ((c.blocks.getD k default).ins.getD i default).args.length (cK (N i) 5))]⟩))] (vA (Sv.ix (j := (i : Int)) (SR.sv ab z) (by omega) (by omega)) (vA (qn 52 0 6 (VInT.vw (aQ i) (by omega)) rfl rfl rfl rfl) trivial)) (by kernel_rfl) rfl fun _ => ?_
    refine wo_rs (rs_new z rfl) rfl rfl ?_
    rintro _ be _ ⟨aS, rfl, aB, _⟩
    have aB : HS _ _ _ [_, _, [(aS, .cells [(.int .i64 0), (.int .i64 0), (.int .i64 0), (.int .i64 0), (.int .i64 0), (.slice none 0 0)] none false)]] _ := aB
    refine wo_rk (rs_rec (q := 2) aB rfl rfl rfl rfl rfl rfl rfl rfl rfl) rfl ?_
    rintro _ bf _ ⟨Z, _⟩
    have Z : HS _ _ _ [_, _, [(aS, .cells [(.int .i64 ((c.blocks.getD k default).ins.getD i default).i.op), (.int .i64 ((c.blocks.getD k default).ins.getD i default).i.a), (.int .i64 ((c.blocks.getD k default).ins.getD i default).i.b), (.int .i64 ((c.blocks.getD k default).ins.getD i default).i.c), (.int .i64 ((c.blocks.getD k default).ins.getD i default).i.n), (.slice (cA (N i) 5) ((c.blocks.getD k default).ins.getD i default).args.length (cK (N i) 5))] none false)]] _ := Z
    refine wo_end 2 rfl ?_
    refine wk_region ?_
    refine wro 2 0 [(0, .o (.agg ⟨[(.int .i64 c.params), (.int .i64 c.regs), (.slice I c.blocks.length J)]⟩)), (1, .o (.agg ⟨[(.int .i64 ((c.blocks.getD k default).ins.getD i default).i.op), (.int .i64 ((c.blocks.getD k default).ins.getD i default).i.a), (.int .i64 ((c.blocks.getD k default).ins.getD i default).i.b), (.int .i64 ((c.blocks.getD k default).ins.getD i default).i.c), (.int .i64 ((c.blocks.getD k default).ins.getD i default).i.n), (.slice (cA (N i) 5) ((c.blocks.getD k default).ins.getD i default).args.length (cK (N i) 5))]⟩))] 56 57 [] [(56, (.agg ⟨[(.int .i64 c.params), (.int .i64 c.regs), (.slice I c.blocks.length J)]⟩)), (57, (.agg ⟨[(.int .i64 ((c.blocks.getD k default).ins.getD i default).i.op), (.int .i64 ((c.blocks.getD k default).ins.getD i default).i.a), (.int .i64 ((c.blocks.getD k default).ins.getD i default).i.b), (.int .i64 ((c.blocks.getD k default).ins.getD i default).i.c), (.int .i64 ((c.blocks.getD k default).ins.getD i default).i.n), (.slice (cA (N i) 5) ((c.blocks.getD k default).ins.getD i default).args.length (cK (N i) 5))]⟩))] (vA (qn 24 0 3 (HS.hc Z (i := 0) rfl) rfl rfl rfl rfl) (vA (qn 52 0 6 (HS.hc Z (i := 2) rfl) rfl rfl rfl rfl) trivial)) (by kernel_rfl) rfl fun _ => ?_
    refine wo_call (ap_call rfl rfl rfl) rfl rfl (vinstr_c ex (⟨c.params, c.regs, c.blocks⟩ : VFnT) (⟨(⟨((c.blocks.getD k default).ins.getD i default).i.op, ((c.blocks.getD k default).ins.getD i default).i.a, ((c.blocks.getD k default).ins.getD i default).i.b, ((c.blocks.getD k default).ins.getD i default).i.c, ((c.blocks.getD k default).ins.getD i default).i.n⟩ : InsT), ((c.blocks.getD k default).ins.getD i default).args⟩ : VInT) (HS.call Z) (by omega) (by omega) Y (by omega) (by omega) (by omega) (by omega) (by omega) aR hT) ?_
    rintro _ bg ⟨bk, bb, aN, aa, rfl, rfl⟩
    replace aa := HS.back Z rfl aa
    have aa : HS _ _ _ [_, _, _] _ := aa
    refine wro 1 3 [] 59 59 [] [(59, (.bool (!(vinV (⟨c.params, c.regs, c.blocks⟩ : VFnT).params (⟨c.params, c.regs, c.blocks⟩ : VFnT).regs (⟨(⟨((c.blocks.getD k default).ins.getD i default).i.op, ((c.blocks.getD k default).ins.getD i default).i.a, ((c.blocks.getD k default).ins.getD i default).i.b, ((c.blocks.getD k default).ins.getD i default).i.c, ((c.blocks.getD k default).ins.getD i default).i.n⟩ : InsT), ((c.blocks.getD k default).ins.getD i default).args⟩ : VInT)))))] trivial (by kernel_rfl) rfl fun _ => ?_
    refine wo_end 1 rfl ?_
    refine wk_if 1 2 (v := (!(vinV (⟨c.params, c.regs, c.blocks⟩ : VFnT).params (⟨c.params, c.regs, c.blocks⟩ : VFnT).regs (⟨(⟨((c.blocks.getD k default).ins.getD i default).i.op, ((c.blocks.getD k default).ins.getD i default).i.a, ((c.blocks.getD k default).ins.getD i default).i.b, ((c.blocks.getD k default).ins.getD i default).i.c, ((c.blocks.getD k default).ins.getD i default).i.n⟩ : InsT), ((c.blocks.getD k default).ins.getD i default).args⟩ : VInT)))) rfl rfl rfl rfl (fun ap => ?_) (fun ap => ?_)
    ·
     have aD := ap
     try simp only [BS] at aD
     have h3 := aD
     refine wr 1 [] 2 2 [] [(2, (.bool false))] trivial (by kernel_rfl) rfl fun _ => ?_
     refine wk_ret ⟨.inr rfl, _, rfl, false, _, (Fz.le_trans (Fz.le_trans (T) E) aN), (HS.forget aa), rfl, (by exact val_no (all_not (by omega) (blk_no (all_not (by omega) h3))))⟩
    ·
     have aD := ap
     try simp only [BS] at aD
     refine wr 1 [] 52 52 [60] [(52, (.int .i64 ((i : Int) + 1)))] (vA (vi (n := (i : Int) + 1) (by omega)) trivial) (by kernel_rfl) rfl fun _ => ?_
     refine aV _ _ _ ?_ ⟨i + 1, _, (Fz.le_trans (E) aN), (HS.sub aa (List.sublist_append_left _ _)), (agC rfl (agC rfl (agC rfl (agC rfl (agC rfl (agC rfl (agC rfl (agC rfl (agC rfl (agC rfl (agC rfl (agC rfl agN)))))))))))), rfl, (by first | assumption | omega | (simp at *; omega)), (by exact upto_succ hb (by assumption))⟩
     omega
   ·
    have aH := an
    try simp only [BS] at aH
    have hal := upto_all hb (by omega)
    refine wr 3 [] 1 0 [9] [(9, (.bool false))] trivial (by kernel_rfl) rfl fun _ => ?_
    refine wr 3 [(1, .o (.int .i64 (c.blocks.getD k default).fin))] 61 62 [] [(62, (.int .i64 (c.blocks.getD k default).fin))] (vA (ql 3 1 (HS.hc z (i := 1) rfl) rfl rfl) trivial) (by kernel_rfl) rfl fun _ => ?_
    refine wr 1 [] 63 64 [] [(63, (.bool ((c.blocks.getD k default).fin == 1)))] trivial (by kernel_rfl) rfl fun _ => ?_
    refine wk_if 0 1 (v := ((c.blocks.getD k default).fin == 1)) rfl rfl rfl rfl (fun aq => ?_) (fun aq => ?_)
    ·
     have aI := aq
     try simp only [BS] at aI
     refine wr 3 [(2, .o (.int .i64 (c.blocks.getD k default).tgt)), (3, .o (.bool (regOK ((⟨c.params, c.regs, c.blocks⟩ : VFnT).blocks.length : Int) (c.blocks.getD k default).tgt))), (6, .o (.int .i64 (c.blocks.getD k default).reg)), (11, .o (.int .i64 (c.blocks.getD k default).els))] 65 78 [9] [(9, (.bool ((regOK ((⟨c.params, c.regs, c.blocks⟩ : VFnT).blocks.length : Int) (c.blocks.getD k default).tgt && ((c.blocks.getD k default).reg == 0)) && ((c.blocks.getD k default).els == 0))))] (vA (ql 3 3 (HS.hc z (i := 1) rfl) rfl rfl) (vA (cBlk_c_q ex (c.blocks.getD k default).tgt (⟨c.params, c.regs, c.blocks⟩ : VFnT) ag (by omega) (HS.hc z (i := 0) rfl) (by omega) (by omega)) (vA (fun (O : (regOK ((⟨c.params, c.regs, c.blocks⟩ : VFnT).blocks.length : Int) (c.blocks.getD k default).tgt) = true) => (ql 3 2 (HS.hc z (i := 1) rfl) rfl rfl)) (vA (fun (O : (regOK ((⟨c.params, c.regs, c.blocks⟩ : VFnT).blocks.length : Int) (c.blocks.getD k default).tgt && ((c.blocks.getD k default).reg == 0)) = true) => (ql 3 4 (HS.hc z (i := 1) rfl) rfl rfl)) trivial)))) (by kernel_rfl) rfl fun _ => ?_
     refine wr 1 [] 133 134 [] [(134, (.bool (!((regOK ((⟨c.params, c.regs, c.blocks⟩ : VFnT).blocks.length : Int) (c.blocks.getD k default).tgt && ((c.blocks.getD k default).reg == 0)) && ((c.blocks.getD k default).els == 0)))))] trivial (by kernel_rfl) rfl fun _ => ?_
     refine wk_if 1 2 (v := (!((regOK ((⟨c.params, c.regs, c.blocks⟩ : VFnT).blocks.length : Int) (c.blocks.getD k default).tgt && ((c.blocks.getD k default).reg == 0)) && ((c.blocks.getD k default).els == 0)))) rfl rfl rfl rfl (fun ar => ?_) (fun ar => ?_)
     ·
      have ah := ar
      try simp only [BS] at ah
      have V := ah
      try simp only [regOK_not, regOK_iff] at V
      refine wr 1 [] 2 2 [] [(2, (.bool false))] trivial (by kernel_rfl) rfl fun _ => ?_
      refine wk_ret ⟨.inr rfl, _, rfl, false, _, (Fz.le_trans (T) E), (HS.forget z), rfl, (by exact val_no (all_not (k := k) (by omega) (blk_end (Bool.eq_false_iff.2 fun hv => by rw [vend_iff] at hv; omega))))⟩
     ·
      have ah := ar
      try simp only [BS] at ah
      have V := ah
      try simp only [regOK_not, regOK_iff] at V
      refine wr 1 [] 45 45 [135] [(45, (.int .i64 ((k : Int) + 1)))] (vA (vi (n := (k : Int) + 1) (by omega)) trivial) (by kernel_rfl) rfl fun _ => ?_
      refine aF _ _ _ ?_ ⟨k + 1, _, (Fz.le_trans (T) E), (HS.sub z (List.sublist_append_left _ _)), (agC rfl (agC rfl (agC rfl (agC rfl (agC rfl (agC rfl agN)))))), rfl, (by first | assumption | omega | (simp at *; omega)), (by exact upto_succ ha (blk_yes hal (by first | assumption | (rw [vend_iff]; omega))))⟩
      omega
    ·
     have aI := aq
     try simp only [BS] at aI
     refine wr 1 [] 79 80 [] [(79, (.bool ((c.blocks.getD k default).fin == 2)))] trivial (by kernel_rfl) rfl fun _ => ?_
     refine wk_if 0 1 (v := ((c.blocks.getD k default).fin == 2)) rfl rfl rfl rfl (fun au => ?_) (fun au => ?_)
     ·
      have aJ := au
      try simp only [BS] at aJ
      refine wr 3 [(2, .o (.int .i64 (c.blocks.getD k default).tgt)), (3, .o (.bool (regOK ((⟨c.params, c.regs, c.blocks⟩ : VFnT).blocks.length : Int) (c.blocks.getD k default).tgt))), (7, .o (.int .i64 (c.blocks.getD k default).els)), (8, .o (.bool (regOK ((⟨c.params, c.regs, c.blocks⟩ : VFnT).blocks.length : Int) (c.blocks.getD k default).els))), (13, .o (.int .i64 (c.blocks.getD k default).reg)), (14, .o (.bool (regOK (⟨c.params, c.regs, c.blocks⟩ : VFnT).regs (c.blocks.getD k default).reg)))] 81 96 [9] [(9, (.bool ((regOK ((⟨c.params, c.regs, c.blocks⟩ : VFnT).blocks.length : Int) (c.blocks.getD k default).tgt && regOK ((⟨c.params, c.regs, c.blocks⟩ : VFnT).blocks.length : Int) (c.blocks.getD k default).els) && regOK (⟨c.params, c.regs, c.blocks⟩ : VFnT).regs (c.blocks.getD k default).reg)))] (vA (ql 3 3 (HS.hc z (i := 1) rfl) rfl rfl) (vA (cBlk_c_q ex (c.blocks.getD k default).tgt (⟨c.params, c.regs, c.blocks⟩ : VFnT) ag (by omega) (HS.hc z (i := 0) rfl) (by omega) (by omega)) (vA (fun (O : (regOK ((⟨c.params, c.regs, c.blocks⟩ : VFnT).blocks.length : Int) (c.blocks.getD k default).tgt) = true) => (ql 3 4 (HS.hc z (i := 1) rfl) rfl rfl)) (vA (fun (O : (regOK ((⟨c.params, c.regs, c.blocks⟩ : VFnT).blocks.length : Int) (c.blocks.getD k default).tgt) = true) => (cBlk_c_q ex (c.blocks.getD k default).els (⟨c.params, c.regs, c.blocks⟩ : VFnT) ag (by (try simp only [BS] at O); omega) (HS.hc z (i := 0) rfl) (by (try simp only [BS] at O); omega) (by (try simp only [BS] at O); omega))) (vA (fun (O : (regOK ((⟨c.params, c.regs, c.blocks⟩ : VFnT).blocks.length : Int) (c.blocks.getD k default).tgt && regOK ((⟨c.params, c.regs, c.blocks⟩ : VFnT).blocks.length : Int) (c.blocks.getD k default).els) = true) => (ql 3 2 (HS.hc z (i := 1) rfl) rfl rfl)) (vA (fun (O : (regOK ((⟨c.params, c.regs, c.blocks⟩ : VFnT).blocks.length : Int) (c.blocks.getD k default).tgt && regOK ((⟨c.params, c.regs, c.blocks⟩ : VFnT).blocks.length : Int) (c.blocks.getD k default).els) = true) => (cReg_c_q ex (c.blocks.getD k default).reg (⟨c.params, c.regs, c.blocks⟩ : VFnT) ag (by (try simp only [BS] at O); omega) (HS.hc z (i := 0) rfl) (by (try simp only [BS] at O); omega) (by (try simp only [BS] at O); omega))) trivial)))))) (by kernel_rfl) rfl fun _ => ?_
      refine wr 1 [] 133 134 [] [(134, (.bool (!((regOK ((⟨c.params, c.regs, c.blocks⟩ : VFnT).blocks.length : Int) (c.blocks.getD k default).tgt && regOK ((⟨c.params, c.regs, c.blocks⟩ : VFnT).blocks.length : Int) (c.blocks.getD k default).els) && regOK (⟨c.params, c.regs, c.blocks⟩ : VFnT).regs (c.blocks.getD k default).reg))))] trivial (by kernel_rfl) rfl fun _ => ?_
      refine wk_if 1 2 (v := (!((regOK ((⟨c.params, c.regs, c.blocks⟩ : VFnT).blocks.length : Int) (c.blocks.getD k default).tgt && regOK ((⟨c.params, c.regs, c.blocks⟩ : VFnT).blocks.length : Int) (c.blocks.getD k default).els) && regOK (⟨c.params, c.regs, c.blocks⟩ : VFnT).regs (c.blocks.getD k default).reg))) rfl rfl rfl rfl (fun av => ?_) (fun av => ?_)
      ·
       have aj := av
       try simp only [BS] at aj
       have V := aj
       try simp only [regOK_not, regOK_iff] at V
       refine wr 1 [] 2 2 [] [(2, (.bool false))] trivial (by kernel_rfl) rfl fun _ => ?_
       refine wk_ret ⟨.inr rfl, _, rfl, false, _, (Fz.le_trans (T) E), (HS.forget z), rfl, (by exact val_no (all_not (k := k) (by omega) (blk_end (Bool.eq_false_iff.2 fun hv => by rw [vend_iff] at hv; omega))))⟩
      ·
       have aj := av
       try simp only [BS] at aj
       have V := aj
       try simp only [regOK_not, regOK_iff] at V
       refine wr 1 [] 45 45 [135] [(45, (.int .i64 ((k : Int) + 1)))] (vA (vi (n := (k : Int) + 1) (by omega)) trivial) (by kernel_rfl) rfl fun _ => ?_
       refine aF _ _ _ ?_ ⟨k + 1, _, (Fz.le_trans (T) E), (HS.sub z (List.sublist_append_left _ _)), (agC rfl (agC rfl (agC rfl (agC rfl (agC rfl (agC rfl agN)))))), rfl, (by first | assumption | omega | (simp at *; omega)), (by exact upto_succ ha (blk_yes hal (by first | assumption | (rw [vend_iff]; omega))))⟩
       omega
     ·
      have aJ := au
      try simp only [BS] at aJ
      refine wr 1 [] 97 98 [] [(97, (.bool ((c.blocks.getD k default).fin == 3)))] trivial (by kernel_rfl) rfl fun _ => ?_
      refine wk_if 0 1 (v := ((c.blocks.getD k default).fin == 3)) rfl rfl rfl rfl (fun aw => ?_) (fun aw => ?_)
      ·
       have aL := aw
       try simp only [BS] at aL
       refine wr 3 [(2, .o (.int .i64 (c.blocks.getD k default).reg)), (3, .o (.bool (regOK (⟨c.params, c.regs, c.blocks⟩ : VFnT).regs (c.blocks.getD k default).reg))), (6, .o (.int .i64 (c.blocks.getD k default).tgt)), (11, .o (.int .i64 (c.blocks.getD k default).els))] 99 112 [9] [(9, (.bool ((regOK (⟨c.params, c.regs, c.blocks⟩ : VFnT).regs (c.blocks.getD k default).reg && ((c.blocks.getD k default).tgt == 0)) && ((c.blocks.getD k default).els == 0))))] (vA (ql 3 2 (HS.hc z (i := 1) rfl) rfl rfl) (vA (cReg_c_q ex (c.blocks.getD k default).reg (⟨c.params, c.regs, c.blocks⟩ : VFnT) ag (by omega) (HS.hc z (i := 0) rfl) (by omega) (by omega)) (vA (fun (O : (regOK (⟨c.params, c.regs, c.blocks⟩ : VFnT).regs (c.blocks.getD k default).reg) = true) => (ql 3 3 (HS.hc z (i := 1) rfl) rfl rfl)) (vA (fun (O : (regOK (⟨c.params, c.regs, c.blocks⟩ : VFnT).regs (c.blocks.getD k default).reg && ((c.blocks.getD k default).tgt == 0)) = true) => (ql 3 4 (HS.hc z (i := 1) rfl) rfl rfl)) trivial)))) (by kernel_rfl) rfl fun _ => ?_
       refine wr 1 [] 133 134 [] [(134, (.bool (!((regOK (⟨c.params, c.regs, c.blocks⟩ : VFnT).regs (c.blocks.getD k default).reg && ((c.blocks.getD k default).tgt == 0)) && ((c.blocks.getD k default).els == 0)))))] trivial (by kernel_rfl) rfl fun _ => ?_
       refine wk_if 1 2 (v := (!((regOK (⟨c.params, c.regs, c.blocks⟩ : VFnT).regs (c.blocks.getD k default).reg && ((c.blocks.getD k default).tgt == 0)) && ((c.blocks.getD k default).els == 0)))) rfl rfl rfl rfl (fun ax => ?_) (fun ax => ?_)
       ·
        have ak := ax
        try simp only [BS] at ak
        have V := ak
        try simp only [regOK_not, regOK_iff] at V
        refine wr 1 [] 2 2 [] [(2, (.bool false))] trivial (by kernel_rfl) rfl fun _ => ?_
        refine wk_ret ⟨.inr rfl, _, rfl, false, _, (Fz.le_trans (T) E), (HS.forget z), rfl, (by exact val_no (all_not (k := k) (by omega) (blk_end (Bool.eq_false_iff.2 fun hv => by rw [vend_iff] at hv; omega))))⟩
       ·
        have ak := ax
        try simp only [BS] at ak
        have V := ak
        try simp only [regOK_not, regOK_iff] at V
        refine wr 1 [] 45 45 [135] [(45, (.int .i64 ((k : Int) + 1)))] (vA (vi (n := (k : Int) + 1) (by omega)) trivial) (by kernel_rfl) rfl fun _ => ?_
        refine aF _ _ _ ?_ ⟨k + 1, _, (Fz.le_trans (T) E), (HS.sub z (List.sublist_append_left _ _)), (agC rfl (agC rfl (agC rfl (agC rfl (agC rfl (agC rfl agN)))))), rfl, (by first | assumption | omega | (simp at *; omega)), (by exact upto_succ ha (blk_yes hal (by first | assumption | (rw [vend_iff]; omega))))⟩
        omega
      ·
       have aL := aw
       try simp only [BS] at aL
       refine wr 1 [] 113 114 [] [(113, (.bool ((c.blocks.getD k default).fin == 4)))] trivial (by kernel_rfl) rfl fun _ => ?_
       refine wk_if 0 3 (v := ((c.blocks.getD k default).fin == 4)) rfl rfl rfl rfl (fun ay => ?_) (fun ay => ?_)
       ·
        have aM := ay
        try simp only [BS] at aM
        refine wr 3 [(1, .o (.int .i64 (c.blocks.getD k default).tgt)), (5, .o (.int .i64 (c.blocks.getD k default).tgt)), (10, .o (.int .i64 (c.blocks.getD k default).reg)), (15, .o (.int .i64 (c.blocks.getD k default).els))] 115 132 [9] [(9, (.bool ((((decide ((1 : Int) ≤ (c.blocks.getD k default).tgt)) && (decide ((c.blocks.getD k default).tgt < 33554432))) && ((c.blocks.getD k default).reg == 0)) && ((c.blocks.getD k default).els == 0))))] (vA (ql 3 3 (HS.hc z (i := 1) rfl) rfl rfl) (vA (fun (O : (decide ((1 : Int) ≤ (c.blocks.getD k default).tgt)) = true) => (ql 3 3 (HS.hc z (i := 1) rfl) rfl rfl)) (vA (fun (O : ((decide ((1 : Int) ≤ (c.blocks.getD k default).tgt)) && (decide ((c.blocks.getD k default).tgt < 33554432))) = true) => (ql 3 2 (HS.hc z (i := 1) rfl) rfl rfl)) (vA (fun (O : (((decide ((1 : Int) ≤ (c.blocks.getD k default).tgt)) && (decide ((c.blocks.getD k default).tgt < 33554432))) && ((c.blocks.getD k default).reg == 0)) = true) => (ql 3 4 (HS.hc z (i := 1) rfl) rfl rfl)) trivial)))) (by kernel_rfl) rfl fun _ => ?_
        refine wr 1 [] 133 134 [] [(134, (.bool (!((((decide ((1 : Int) ≤ (c.blocks.getD k default).tgt)) && (decide ((c.blocks.getD k default).tgt < 33554432))) && ((c.blocks.getD k default).reg == 0)) && ((c.blocks.getD k default).els == 0)))))] trivial (by kernel_rfl) rfl fun _ => ?_
        refine wk_if 1 2 (v := (!((((decide ((1 : Int) ≤ (c.blocks.getD k default).tgt)) && (decide ((c.blocks.getD k default).tgt < 33554432))) && ((c.blocks.getD k default).reg == 0)) && ((c.blocks.getD k default).els == 0)))) rfl rfl rfl rfl (fun az => ?_) (fun az => ?_)
        ·
         have al := az
         try simp only [BS] at al
         have V := al
         try simp only [regOK_not, regOK_iff] at V
         refine wr 1 [] 2 2 [] [(2, (.bool false))] trivial (by kernel_rfl) rfl fun _ => ?_
         refine wk_ret ⟨.inr rfl, _, rfl, false, _, (Fz.le_trans (T) E), (HS.forget z), rfl, (by exact val_no (all_not (k := k) (by omega) (blk_end (Bool.eq_false_iff.2 fun hv => by rw [vend_iff] at hv; omega))))⟩
        ·
         have al := az
         try simp only [BS] at al
         have V := al
         try simp only [regOK_not, regOK_iff] at V
         refine wr 1 [] 45 45 [135] [(45, (.int .i64 ((k : Int) + 1)))] (vA (vi (n := (k : Int) + 1) (by omega)) trivial) (by kernel_rfl) rfl fun _ => ?_
         refine aF _ _ _ ?_ ⟨k + 1, _, (Fz.le_trans (T) E), (HS.sub z (List.sublist_append_left _ _)), (agC rfl (agC rfl (agC rfl (agC rfl (agC rfl (agC rfl agN)))))), rfl, (by first | assumption | omega | (simp at *; omega)), (by exact upto_succ ha (blk_yes hal (by first | assumption | (rw [vend_iff]; omega))))⟩
         omega
       ·
        have aM := ay
        try simp only [BS] at aM
        refine wr 1 [] 133 134 [] [(134, (.bool true))] trivial (by kernel_rfl) rfl fun _ => ?_
        refine wk_ift 1 (v := true) rfl rfl rfl rfl ?_
        refine wr 1 [] 2 2 [] [(2, (.bool false))] trivial (by kernel_rfl) rfl fun _ => ?_
        refine wk_ret ⟨.inr rfl, _, rfl, false, _, (Fz.le_trans (T) E), (HS.forget z), rfl, (by exact val_no (all_not (k := k) (by omega) (blk_end (Bool.eq_false_iff.2 fun hv => by rw [vend_iff] at hv; omega))))⟩
  ·
   have aG := am
   try simp only [BS] at aG
   refine wr 1 [] 2 2 [] [(2, (.bool true))] trivial (by kernel_rfl) rfl fun _ => ?_
   refine wk_ret ⟨.inr rfl, _, rfl, true, _, (T), (HS.forget aE), rfl, (by exact val_yes hlim (upto_all ha (by omega)))⟩
end Go.Proofs.YtknafdcgpaejlaaDoor.m3
