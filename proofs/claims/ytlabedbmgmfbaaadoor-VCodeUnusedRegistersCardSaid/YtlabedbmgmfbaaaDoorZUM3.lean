/-
 Which virtual code is valid: the program and the reference, each by a symbolic run. No condition but that the table lies as laid.
-/
import Derived.Test.YtlabedbmgmfbaaaDoorZUM2
noncomputable section
namespace Go.Proofs.YtlabedbmgmfbaaaDoor.m3
open Go.R
set_option maxRecDepth 10000
set_option linter.unusedVariables false
open m1 m2
theorem cBlk_c (ex : FuncId) (n : Int) {z : Option Addr} {A : Nat} {b_c : Nat} (c : VFnT) (H : Heap) (hn : in64 n) (hc_c : HC H.get b_c 0 [(iI c.params), (iI c.regs), (.slice z c.blocks.length A)]) (E : in64 c.params) (I : in64 c.regs) : C Tryd.prog 1 (KT 60 ex 37 tabC) 67 [(iI n), (.pointer (some ⟨b_c, 0, none⟩))] H fun v H' => ∃ (r : Bool), H' = H ∧ v = .bool r ∧ r = aE (c.blocks.length : Int) n := by
 refine aK Tryd.func67 rfl rfl ?_
 refine aw 1 rfl ?_
 refine wR 2 [] 3 3 [] [(3, (.bool false))] trivial rfl fun _ => ?_
 refine wR 1 [(5, .o (.slice z c.blocks.length A))] 3 12 [] [(3, (.bool ((decide ((0 : Int) ≤ n)) && (decide (n < (c.blocks.length : Int))))))] (vA (fun (J : (decide ((0 : Int) ≤ n)) = true) => (ql 22 2 hc_c rfl rfl)) trivial) rfl fun _ => ?_
 refine am ⟨.inr rfl, _, rfl, ((decide ((0 : Int) ≤ n)) && (decide (n < (c.blocks.length : Int)))), rfl, rfl, (by rw [Bool.eq_iff_iff, bg]; simp)⟩
theorem jZ (ex : FuncId) (n : Int) {z : Option Addr} {I : Nat} {b_c : Nat} (c : VFnT) (H : Heap) (hn : in64 n) (hc_c : HC H.get b_c 0 [(iI c.params), (iI c.regs), (.slice z c.blocks.length I)]) (A : in64 c.params) (E : in64 c.regs) : C Tryd.prog 1 (KT 60 ex 37 tabC) 67 [(iI n), (.pointer (some ⟨b_c, 0, none⟩))] H fun v H' => v = (.bool (aE (c.blocks.length : Int) n)) ∧ H' = H :=
 cq (cBlk_c ex n c H hn hc_c A E) (by rintro _ _ ⟨_, rfl, rfl, rfl⟩; exact ⟨rfl, rfl⟩)
theorem cReg_c (ex : FuncId) (n : Int) {z : Option Addr} {A : Nat} {b_c : Nat} (c : VFnT) (H : Heap) (hn : in64 n) (hc_c : HC H.get b_c 0 [(iI c.params), (iI c.regs), (.slice z c.blocks.length A)]) (E : in64 c.params) (I : in64 c.regs) : C Tryd.prog 1 (KT 60 ex 37 tabC) 68 [(iI n), (.pointer (some ⟨b_c, 0, none⟩))] H fun v H' => ∃ (r : Bool), H' = H ∧ v = .bool r ∧ r = aE c.regs n := by
 refine aK Tryd.func68 rfl rfl ?_
 refine aw 1 rfl ?_
 refine wR 2 [] 3 3 [] [(3, (.bool false))] trivial rfl fun _ => ?_
 refine wR 1 [(5, .o (iI c.regs))] 3 11 [] [(3, (.bool ((decide ((0 : Int) ≤ n)) && (decide (n < c.regs)))))] (vA (fun (J : (decide ((0 : Int) ≤ n)) = true) => (ql 3 1 hc_c rfl rfl)) trivial) rfl fun _ => ?_
 refine am ⟨.inr rfl, _, rfl, ((decide ((0 : Int) ≤ n)) && (decide (n < c.regs))), rfl, rfl, (by rw [Bool.eq_iff_iff, bg]; simp)⟩
theorem cReg_c_q (ex : FuncId) (n : Int) {z : Option Addr} {I : Nat} {b_c : Nat} (c : VFnT) (H : Heap) (hn : in64 n) (hc_c : HC H.get b_c 0 [(iI c.params), (iI c.regs), (.slice z c.blocks.length I)]) (A : in64 c.params) (E : in64 c.regs) : C Tryd.prog 1 (KT 60 ex 37 tabC) 68 [(iI n), (.pointer (some ⟨b_c, 0, none⟩))] H fun v H' => v = (.bool (aE c.regs n)) ∧ H' = H :=
 cq (cReg_c ex n c H hn hc_c A E) (by rintro _ _ ⟨_, rfl, rfl, rfl⟩; exact ⟨rfl, rfl⟩)
theorem cRegI_c (ex : FuncId) (n : Int) {z : Option Addr} {A : Nat} {b_c : Nat} (c : VFnT) (H : Heap) (hn : in64 n) (hc_c : HC H.get b_c 0 [(iI c.params), (iI c.regs), (.slice z c.blocks.length A)]) (E : in64 c.params) (I : in64 c.regs) : C Tryd.prog 1 (KT 60 ex 37 tabC) 82 [(iI n), (.pointer (some ⟨b_c, 0, none⟩))] H fun v H' => ∃ (r : Bool), H' = H ∧ v = .bool r ∧ r = aE c.regs n := by
 refine aK Tryd.func82 rfl rfl ?_
 refine aw 1 rfl ?_
 refine wR 2 [] 3 3 [] [(3, (.bool false))] trivial rfl fun _ => ?_
 refine wR 1 [(5, .o (iI c.regs))] 3 11 [] [(3, (.bool ((decide ((0 : Int) ≤ n)) && (decide (n < c.regs)))))] (vA (fun (J : (decide ((0 : Int) ≤ n)) = true) => (ql 3 1 hc_c rfl rfl)) trivial) rfl fun _ => ?_
 refine am ⟨.inr rfl, _, rfl, ((decide ((0 : Int) ≤ n)) && (decide (n < c.regs))), rfl, rfl, (by rw [Bool.eq_iff_iff, bg]; simp)⟩
theorem f3 (ex : FuncId) (n : Int) {z : Option Addr} {I : Nat} {b_c : Nat} (c : VFnT) (H : Heap) (hn : in64 n) (hc_c : HC H.get b_c 0 [(iI c.params), (iI c.regs), (.slice z c.blocks.length I)]) (A : in64 c.params) (E : in64 c.regs) : C Tryd.prog 1 (KT 60 ex 37 tabC) 82 [(iI n), (.pointer (some ⟨b_c, 0, none⟩))] H fun v H' => v = (.bool (aE c.regs n)) ∧ H' = H :=
 cq (cRegI_c ex n c H hn hc_c A E) (by rintro _ _ ⟨_, rfl, rfl, rfl⟩; exact ⟨rfl, rfl⟩)
theorem vform_c (ex : FuncId) (op : Int) {F : Fz} {H : Heap} {R : List Fp} (hs : HS (.of H []) F H [] R) (hop : in64 op) (hT : TB 37 tabC F) : C Tryd.prog 1 (KT 60 ex 37 tabC) 83 [(iI op)] H fun v H' => ∃ (r : Int) (F' : Fz), Fz.le F F' ∧ HS (.of H []) F' H' [] R ∧ v = .int .i64 r ∧ r = aB op := by
 refine aK Tryd.func83 rfl rfl ?_
 refine aw 1 rfl ?_
 refine wR 3 [] 2 2 [] [(2, (iI 0))] trivial rfl fun _ => ?_
 refine wR 1 [] 5 6 [] [(6, (.bool (op == 38)))] trivial rfl fun _ => ?_
 refine au 1 2 (v := (op == 38)) rfl rfl rfl rfl (fun I => ?_) (fun I => ?_)
 ·
  try simp only [BS] at I
  refine wR 1 [] 2 2 [] [(2, (iI 5))] trivial rfl fun _ => ?_
  refine am ⟨.inr rfl, _, rfl, 5, _, fR, (HS.forget hs), rfl, (by unfold aB; split <;> first | rfl | omega)⟩
 ·
  try simp only [BS] at I
  refine ah ?_
  refine wm (iI op) rfl rfl rfl ?_
  refine aJ (ay rfl rfl rfl) rfl rfl (m1.mInfo_c ex op (HS.call hs) (by omega) hT) ?_
  rintro _ Z ⟨x5, o5, V, O, z, rfl, T, U, rfl, rfl⟩
  replace z := HS.back hs rfl z
  have z : HS _ _ _ [] _ := z
  refine wRo 3 2 [] 10 11 [7] [(10, (.agg ⟨[(.string ⟨⟨(bH op).name.b⟩⟩), (iI (bH op).form), (.bool (bH op).ra), (.bool (bH op).wa), (.bool (bH op).rb), (.bool (bH op).mt), (iI (bH op).words)]⟩)), (11, (.bool (infO op)))] trivial rfl fun _ => ?_
  refine bf (bY z rfl) rfl rfl ?_
  rintro _ H8 _ ⟨J, rfl, E, _⟩
  have E : HS _ _ _ [[(J, .cells [(.string ⟨⟨[]⟩⟩), (iI 0), (.bool false), (.bool false), (.bool false), (.bool false), (iI 0)] none false)]] _ := E
  refine aN (aC (q := 0) E rfl rfl rfl rfl rfl rfl rfl rfl rfl) rfl ?_
  rintro _ H9 _ ⟨A, _⟩
  have A : HS _ _ _ [[(J, .cells [(.string ⟨⟨(bH op).name.b⟩⟩), (iI (bH op).form), (.bool (bH op).ra), (.bool (bH op).wa), (.bool (bH op).rb), (.bool (bH op).mt), (iI (bH op).words)] none false)]] _ := A
  refine wa (.bool (infO op)) rfl rfl rfl ?_
  refine ao 2 rfl ?_
  refine wR 1 [(1, .o (iI (bH op).form))] 12 13 [2] [(2, (iI (bH op).form))] (vA (ql 3 1 (HS.hc A (i := 0) rfl) rfl rfl) trivial) rfl fun _ => ?_
  refine am ⟨.inr rfl, _, rfl, (bH op).form, _, (O), (HS.forget A), rfl, (by unfold aB; split <;> first | rfl | omega)⟩
set_option maxHeartbeats 1000000 in
theorem vinstr_c (ex : FuncId) {a0 : Option Addr} {a1 : Nat} (c : VFnT) {I : Option Addr} {J : Nat} (iv : VInT) {F : Fz} {H : Heap} {R : List Fp} (hs : HS (.of H []) F H [] R) (et : in64 c.params) (ez : in64 c.regs) (e0 : SR F (.slice a0 c.blocks.length a1) c.blocks) (ds : in64 iv.i.op) (dt : in64 iv.i.a) (d1 : in64 iv.i.b) (d2 : in64 iv.i.c) (eb : in64 iv.i.n) (ad : SR F (.slice I iv.args.length J) iv.args) (hT : TB 37 tabC F) : C Tryd.prog 1 (KT 60 ex 37 tabC) 69 [(.agg ⟨[(iI c.params), (iI c.regs), (.slice a0 c.blocks.length a1)]⟩), (.agg ⟨[(iI iv.i.op), (iI iv.i.a), (iI iv.i.b), (iI iv.i.c), (iI iv.i.n), (.slice I iv.args.length J)]⟩)] H fun v H' => ∃ (r : Bool) (F' : Fz), Fz.le F F' ∧ HS (.of H []) F' H' [] R ∧ v = .bool r ∧ r = fg c.params c.regs iv := by
 refine aK Tryd.func69 rfl rfl ?_
 refine aw 1 rfl ?_
 refine ah ?_
 refine bf (dQ hs rfl rfl) rfl rfl ?_
 rintro _ H2 _ ⟨b1, rfl, cl, _⟩
 let c5 : Fp := [(b1, .cells [(iI c.params), (iI c.regs), (.slice a0 c.blocks.length a1)] none false)]
 have cl : HS _ _ _ [c5] _ := cl
 refine bf (dQ cl rfl rfl) rfl rfl ?_
 rintro _ H4 _ ⟨b3, rfl, a3, _⟩
 let c6 : Fp := [(b3, .cells [(iI iv.i.op), (iI iv.i.a), (iI iv.i.b), (iI iv.i.c), (iI iv.i.n), (.slice I iv.args.length J)] none false)]
 have a3 : HS _ _ _ [_, c6] _ := a3
 refine wa (.bool false) rfl rfl rfl ?_
 refine ao 2 rfl ?_
 refine ah ?_
 let c7 : Value := (.agg ⟨[(iI iv.i.op), (iI iv.i.a), (iI iv.i.b), (iI iv.i.c), (iI iv.i.n)]⟩)
 refine wRo 2 0 [(1, .o c7)] 13 14 [] [(14, c7)] (vA (qn 45 0 5 (HS.hc a3 (i := 1) rfl) rfl rfl rfl rfl) trivial) rfl fun _ => ?_
 refine bf (bY a3 rfl) rfl rfl ?_
 rintro _ H7 _ ⟨b6, rfl, co, _⟩
 have co : HS _ _ _ [_, _, [(b6, .cells [(iI 0), (iI 0), (iI 0), (iI 0), (iI 0)] none false)]] _ := co
 refine aN (aC (q := 2) co rfl rfl rfl rfl rfl rfl rfl rfl rfl) rfl ?_
 rintro _ H8 _ ⟨V, _⟩
 let c8 : Fp := [(b6, .cells [(iI iv.i.op), (iI iv.i.a), (iI iv.i.b), (iI iv.i.c), (iI iv.i.n)] none false)]
 have V : HS _ _ _ [_, _, c8] _ := V
 refine ao 3 rfl ?_
 refine wR 1 [(1, .o (iI iv.i.op)), (2, .o (.bool (alV iv.i.op))), (6, .o (.slice I iv.args.length J)), (12, .o (iI iv.i.op)), (16, .o (.slice I iv.args.length J))] 15 35 [] [(35, (.bool (((!(alV iv.i.op)) || (decide ((6 : Int) < (iv.args.length : Int)))) || ((iv.i.op != 6) && (decide ((0 : Int) < (iv.args.length : Int)))))))] (vA (ql 3 0 (HS.hc V (i := 2) rfl) rfl rfl) (vA (m1.valw_c_q ex iv.i.op H8) (vA (fun (A : (!(alV iv.i.op)) = false) => (ql 25 5 (HS.hc V (i := 1) rfl) rfl rfl)) (vA (fun (A : ((!(alV iv.i.op)) || (decide ((6 : Int) < (iv.args.length : Int)))) = false) => (ql 3 0 (HS.hc V (i := 2) rfl) rfl rfl)) (vA (fun (A : (iv.i.op != 6) = true) (U : ((!(alV iv.i.op)) || (decide ((6 : Int) < (iv.args.length : Int)))) = false) => (ql 25 5 (HS.hc V (i := 1) rfl) rfl rfl)) trivial))))) rfl fun _ => ?_
 refine au 1 2 (v := (((!(alV iv.i.op)) || (decide ((6 : Int) < (iv.args.length : Int)))) || ((iv.i.op != 6) && (decide ((0 : Int) < (iv.args.length : Int)))))) rfl rfl rfl rfl (fun ar => ?_) (fun ar => ?_)
 ·
  try simp only [BS] at ar
  have hbad := ar
  refine wR 1 [] 4 4 [] [(4, (.bool false))] trivial rfl fun _ => ?_
  refine am ⟨.inr rfl, _, rfl, false, _, fR, (HS.forget V), rfl, (by exact vin_bad hbad)⟩
 ·
  try simp only [BS] at ar
  have hal : alV iv.i.op = true := (ar).1.1
  have h6 : iv.i.op = 6 ∨ iv.args.length = 0 := by omega
  have c4 : iv.args.length ≤ 6 := by omega
  refine wR 3 [] 36 36 [6] [(6, (.func (.func 82) #[] #[(.pointer (some ⟨b1, 0, none⟩))]))] trivial rfl fun _ => ?_
  refine wR 2 [(1, .o (.slice I iv.args.length J))] 37 40 [] [(38, (.slice I iv.args.length J)), (39, (iI (iv.args.length : Int))), (40, (iI 0))] (vA (ql 25 5 (HS.hc V (i := 1) rfl) rfl rfl) trivial) rfl fun _ => ?_
  refine aL (fun (mm : Nat) f H' => ∃ (k : Nat) (F' : Fz), Fz.le F F' ∧ HS (Base.of H []) F' H' [c5, c6, c8] R ∧ bc f [(2, (.pointer (some ⟨b1, 0, none⟩))), (5, (.pointer (some ⟨b6, 0, none⟩))), (6, (.func (.func 82) #[] #[(.pointer (some ⟨b1, 0, none⟩))])), (38, (.slice I iv.args.length J)), (39, (iI (iv.args.length : Int))), (40, (iI (k : Int)))] ∧ mm = iv.args.length - k ∧ (k ≤ iv.args.length) ∧ (∀ j, j < k → aE c.regs (iv.args.getD j default) = true)) _ ⟨0, _, fR, V, (agC rfl (agC rfl (agC rfl (agC rfl (agC rfl (agC rfl agN)))))), rfl, (by first | assumption | omega | (simp at *; omega)), (by exact dI)⟩ ?_
  rintro e1 e4 dd ⟨k, e2, E, O, ch, rfl, hk, ha⟩ c9
  refine aO _ ch (fun _ => ?_)
  clear ch
  replace hT := hT.mono E
  replace ad := ad.mono E
  refine aw 1 rfl ?_
  refine wR 2 [] 41 41 [] [(41, (.bool (decide ((k : Int) < (iv.args.length : Int)))))] trivial rfl fun _ => ?_
  refine au 4 5 (v := (decide ((k : Int) < (iv.args.length : Int)))) rfl rfl rfl rfl (fun a5 => ?_) (fun a5 => ?_)
  ·
   try simp only [BS] at a5
   obtain ⟨es, c0⟩ := Sv.view (SR.sv ad O)
   have e6 := fI (c0 k)
   refine wR 2 [(1, .o (iI (iv.args.getD k 0)))] 42 43 [8] [(8, (iI (iv.args.getD k 0)))] (vA (Sv.ix (j := (k : Int)) (SR.sv ad O) (by omega) (by omega)) (vA (ql 3 0 (vI (c0 k) (by omega)) rfl rfl) trivial)) rfl fun _ => ?_
   refine wR 1 [(2, .o (.bool (aE (⟨c.params, c.regs, c.blocks⟩ : VFnT).regs (iv.args.getD k 0))))] 44 47 [] [(47, (.bool (!(aE (⟨c.params, c.regs, c.blocks⟩ : VFnT).regs (iv.args.getD k 0)))))] (vA (f3 ex (iv.args.getD k 0) (⟨c.params, c.regs, c.blocks⟩ : VFnT) dd (by omega) (HS.hc O (i := 0) rfl) (by omega) (by omega)) trivial) rfl fun _ => ?_
   refine au 1 2 (v := (!(aE (⟨c.params, c.regs, c.blocks⟩ : VFnT).regs (iv.args.getD k 0)))) rfl rfl rfl rfl (fun a2 => ?_) (fun a2 => ?_)
   ·
    try simp only [BS] at a2
    have dl := a2
    refine wR 1 [] 4 4 [] [(4, (.bool false))] trivial rfl fun _ => ?_
    refine am ⟨.inr rfl, _, rfl, false, _, (E), (HS.forget O), rfl, (by exact vin_no (br (by omega) dl))⟩
   ·
    try simp only [BS] at a2
    refine wR 1 [] 40 40 [48] [(40, (iI ((k : Int) + 1)))] (vA (vi (n := (k : Int) + 1) (by omega)) trivial) rfl fun _ => ?_
    refine c9 _ _ _ ?_ ⟨k + 1, _, (E), O, (agC rfl (agC rfl (agC rfl (agC rfl (agC rfl (agC rfl agN)))))), rfl, (by first | assumption | omega | (simp at *; omega)), (by exact bM ha (by assumption))⟩
    omega
  ·
   try simp only [BS] at a5
   have hall := bw ha (by omega)
   refine wR 3 [] 1 0 [9, 10, 11, 12] [(9, (.bool false)), (10, (.bool false)), (11, (.bool false)), (12, (.bool false))] trivial rfl fun _ => ?_
   refine ah ?_
   refine wRo 2 0 [(1, .o (iI iv.i.op))] 49 50 [] [(50, (iI iv.i.op))] (vA (ql 3 0 (HS.hc O (i := 2) rfl) rfl rfl) trivial) rfl fun _ => ?_
   refine aJ (ay rfl rfl rfl) rfl rfl (vform_c ex iv.i.op (HS.call O) (by omega) hT) ?_
   rintro _ aq ⟨fd, e3, T, z, rfl, rfl⟩
   replace z := HS.back O rfl z
   have z : HS _ _ _ [_, _, _] _ := z
   refine ao 3 rfl ?_
   refine wR 1 [] 52 53 [] [(52, (.bool (aB iv.i.op == 2)))] trivial rfl fun _ => ?_
   refine dH (fun f H' => ∃ (av : Bool) (bv : Bool) (dv : Bool) (nv : Bool), H' = aq ∧ bc f [(2, (.pointer (some ⟨b1, 0, none⟩))), (5, (.pointer (some ⟨b6, 0, none⟩))), (6, (.func (.func 82) #[] #[(.pointer (some ⟨b1, 0, none⟩))])), (9, (.bool av)), (10, (.bool bv)), (11, (.bool dv)), (12, (.bool nv))] ∧ (av = decide (aB iv.i.op ≠ 1)) ∧ (bv = decide (aB iv.i.op = 3 ∨ aB iv.i.op = 4 ∨ aB iv.i.op = 7)) ∧ (dv = decide (aB iv.i.op = 4)) ∧ (nv = decide (aB iv.i.op = 5 ∨ aB iv.i.op = 7))) (fun Z => ?_) ?_
   ·
    refine au 0 1 (v := (aB iv.i.op == 2)) rfl rfl rfl rfl (fun a6 => ?_) (fun a6 => ?_)
    ·
     try simp only [BS] at a6
     refine wR 0 [] 1 0 [9] [(9, (.bool true))] trivial rfl fun _ => ?_
     exact Z _ _ ⟨true, false, false, false, rfl, (agC rfl (agC rfl (agC rfl (agC rfl (agC rfl (agC rfl (agC rfl agN))))))), (by first | (symm; apply decide_eq_true; omega) | (symm; apply decide_eq_false; have hf := aD hal; omega)), (by first | (symm; apply decide_eq_true; omega) | (symm; apply decide_eq_false; have hf := aD hal; omega)), (by first | (symm; apply decide_eq_true; omega) | (symm; apply decide_eq_false; have hf := aD hal; omega)), (by first | (symm; apply decide_eq_true; omega) | (symm; apply decide_eq_false; have hf := aD hal; omega))⟩
    ·
     try simp only [BS] at a6
     refine wR 1 [] 54 55 [] [(54, (.bool (aB iv.i.op == 3)))] trivial rfl fun _ => ?_
     refine au 0 1 (v := (aB iv.i.op == 3)) rfl rfl rfl rfl (fun a7 => ?_) (fun a7 => ?_)
     ·
      try simp only [BS] at a7
      refine wR 0 [] 1 0 [9, 10] [(9, (.bool true)), (10, (.bool true))] trivial rfl fun _ => ?_
      exact Z _ _ ⟨true, true, false, false, rfl, (agC rfl (agC rfl (agC rfl (agC rfl (agC rfl (agC rfl (agC rfl agN))))))), (by first | (symm; apply decide_eq_true; omega) | (symm; apply decide_eq_false; have hf := aD hal; omega)), (by first | (symm; apply decide_eq_true; omega) | (symm; apply decide_eq_false; have hf := aD hal; omega)), (by first | (symm; apply decide_eq_true; omega) | (symm; apply decide_eq_false; have hf := aD hal; omega)), (by first | (symm; apply decide_eq_true; omega) | (symm; apply decide_eq_false; have hf := aD hal; omega))⟩
     ·
      try simp only [BS] at a7
      refine wR 1 [] 56 57 [] [(56, (.bool (aB iv.i.op == 4)))] trivial rfl fun _ => ?_
      refine au 0 1 (v := (aB iv.i.op == 4)) rfl rfl rfl rfl (fun a8 => ?_) (fun a8 => ?_)
      ·
       try simp only [BS] at a8
       refine wR 0 [] 1 0 [9, 10, 11] [(9, (.bool true)), (10, (.bool true)), (11, (.bool true))] trivial rfl fun _ => ?_
       exact Z _ _ ⟨true, true, true, false, rfl, (agC rfl (agC rfl (agC rfl (agC rfl (agC rfl (agC rfl (agC rfl agN))))))), (by first | (symm; apply decide_eq_true; omega) | (symm; apply decide_eq_false; have hf := aD hal; omega)), (by first | (symm; apply decide_eq_true; omega) | (symm; apply decide_eq_false; have hf := aD hal; omega)), (by first | (symm; apply decide_eq_true; omega) | (symm; apply decide_eq_false; have hf := aD hal; omega)), (by first | (symm; apply decide_eq_true; omega) | (symm; apply decide_eq_false; have hf := aD hal; omega))⟩
      ·
       try simp only [BS] at a8
       refine wR 1 [] 58 59 [] [(58, (.bool (aB iv.i.op == 5)))] trivial rfl fun _ => ?_
       refine au 0 1 (v := (aB iv.i.op == 5)) rfl rfl rfl rfl (fun bb => ?_) (fun bb => ?_)
       ·
        try simp only [BS] at bb
        refine wR 0 [] 1 0 [9, 12] [(9, (.bool true)), (12, (.bool true))] trivial rfl fun _ => ?_
        exact Z _ _ ⟨true, false, false, true, rfl, (agC rfl (agC rfl (agC rfl (agC rfl (agC rfl (agC rfl (agC rfl agN))))))), (by first | (symm; apply decide_eq_true; omega) | (symm; apply decide_eq_false; have hf := aD hal; omega)), (by first | (symm; apply decide_eq_true; omega) | (symm; apply decide_eq_false; have hf := aD hal; omega)), (by first | (symm; apply decide_eq_true; omega) | (symm; apply decide_eq_false; have hf := aD hal; omega)), (by first | (symm; apply decide_eq_true; omega) | (symm; apply decide_eq_false; have hf := aD hal; omega))⟩
       ·
        try simp only [BS] at bb
        refine wR 1 [] 60 61 [] [(60, (.bool (aB iv.i.op == 7)))] trivial rfl fun _ => ?_
        refine au 0 0 (v := (aB iv.i.op == 7)) rfl rfl rfl rfl (fun bl => ?_) (fun bl => ?_)
        ·
         try simp only [BS] at bl
         refine wR 0 [] 1 0 [9, 10, 12] [(9, (.bool true)), (10, (.bool true)), (12, (.bool true))] trivial rfl fun _ => ?_
         exact Z _ _ ⟨true, true, false, true, rfl, (agC rfl (agC rfl (agC rfl (agC rfl (agC rfl (agC rfl (agC rfl agN))))))), (by first | (symm; apply decide_eq_true; omega) | (symm; apply decide_eq_false; have hf := aD hal; omega)), (by first | (symm; apply decide_eq_true; omega) | (symm; apply decide_eq_false; have hf := aD hal; omega)), (by first | (symm; apply decide_eq_true; omega) | (symm; apply decide_eq_false; have hf := aD hal; omega)), (by first | (symm; apply decide_eq_true; omega) | (symm; apply decide_eq_false; have hf := aD hal; omega))⟩
        ·
         try simp only [BS] at bl
         exact Z _ _ ⟨false, false, false, false, rfl, (agC rfl (agC rfl (agC rfl (agC rfl (agC rfl (agC rfl (agC rfl agN))))))), (by first | (symm; apply decide_eq_true; omega) | (symm; apply decide_eq_false; have hf := aD hal; omega)), (by first | (symm; apply decide_eq_true; omega) | (symm; apply decide_eq_false; have hf := aD hal; omega)), (by first | (symm; apply decide_eq_true; omega) | (symm; apply decide_eq_false; have hf := aD hal; omega)), (by first | (symm; apply decide_eq_true; omega) | (symm; apply decide_eq_false; have hf := aD hal; omega))⟩
   ·
    rintro e5 aq ⟨av, bv, dv, nv, rfl, ci, hav, hbv, hdv, hnv⟩
    refine aO _ ci (fun _ => ?_)
    clear ci
    refine aw 4 rfl ?_
    refine wR 1 [(4, .o (iI iv.i.a)), (5, .o (.bool (aE (⟨c.params, c.regs, c.blocks⟩ : VFnT).regs iv.i.a))), (13, .o (iI iv.i.b)), (14, .o (.bool (aE (⟨c.params, c.regs, c.blocks⟩ : VFnT).regs iv.i.b))), (23, .o (iI iv.i.c)), (24, .o (.bool (aE (⟨c.params, c.regs, c.blocks⟩ : VFnT).regs iv.i.c))), (33, .o (iI iv.i.a)), (42, .o (iI iv.i.b)), (51, .o (iI iv.i.c)), (60, .o (iI iv.i.n))] 62 125 [] [(125, (.bool (((((((av && (!(aE (⟨c.params, c.regs, c.blocks⟩ : VFnT).regs iv.i.a))) || (bv && (!(aE (⟨c.params, c.regs, c.blocks⟩ : VFnT).regs iv.i.b)))) || (dv && (!(aE (⟨c.params, c.regs, c.blocks⟩ : VFnT).regs iv.i.c)))) || ((!av) && (iv.i.a != 0))) || ((!bv) && (iv.i.b != 0))) || ((!dv) && (iv.i.c != 0))) || ((!nv) && (iv.i.n != 0)))))] (vA (fun (A : av = true) => (ql 3 1 (HS.hc z (i := 2) rfl) rfl rfl)) (vA (fun (A : av = true) => (f3 ex iv.i.a (⟨c.params, c.regs, c.blocks⟩ : VFnT) aq (by (try simp only [BS] at A); omega) (HS.hc z (i := 0) rfl) (by (try simp only [BS] at A); omega) (by (try simp only [BS] at A); omega))) (vA (fun (A : bv = true) (U : (av && (!(aE (⟨c.params, c.regs, c.blocks⟩ : VFnT).regs iv.i.a))) = false) => (ql 3 2 (HS.hc z (i := 2) rfl) rfl rfl)) (vA (fun (A : bv = true) (U : (av && (!(aE (⟨c.params, c.regs, c.blocks⟩ : VFnT).regs iv.i.a))) = false) => (f3 ex iv.i.b (⟨c.params, c.regs, c.blocks⟩ : VFnT) aq (by (try simp only [BS] at A U); omega) (HS.hc z (i := 0) rfl) (by (try simp only [BS] at A U); omega) (by (try simp only [BS] at A U); omega))) (vA (fun (A : dv = true) (U : ((av && (!(aE (⟨c.params, c.regs, c.blocks⟩ : VFnT).regs iv.i.a))) || (bv && (!(aE (⟨c.params, c.regs, c.blocks⟩ : VFnT).regs iv.i.b)))) = false) => (ql 3 3 (HS.hc z (i := 2) rfl) rfl rfl)) (vA (fun (A : dv = true) (U : ((av && (!(aE (⟨c.params, c.regs, c.blocks⟩ : VFnT).regs iv.i.a))) || (bv && (!(aE (⟨c.params, c.regs, c.blocks⟩ : VFnT).regs iv.i.b)))) = false) => (f3 ex iv.i.c (⟨c.params, c.regs, c.blocks⟩ : VFnT) aq (by (try simp only [BS] at A U); omega) (HS.hc z (i := 0) rfl) (by (try simp only [BS] at A U); omega) (by (try simp only [BS] at A U); omega))) (vA (fun (A : (!av) = true) (U : (((av && (!(aE (⟨c.params, c.regs, c.blocks⟩ : VFnT).regs iv.i.a))) || (bv && (!(aE (⟨c.params, c.regs, c.blocks⟩ : VFnT).regs iv.i.b)))) || (dv && (!(aE (⟨c.params, c.regs, c.blocks⟩ : VFnT).regs iv.i.c)))) = false) => (ql 3 1 (HS.hc z (i := 2) rfl) rfl rfl)) (vA (fun (A : (!bv) = true) (U : ((((av && (!(aE (⟨c.params, c.regs, c.blocks⟩ : VFnT).regs iv.i.a))) || (bv && (!(aE (⟨c.params, c.regs, c.blocks⟩ : VFnT).regs iv.i.b)))) || (dv && (!(aE (⟨c.params, c.regs, c.blocks⟩ : VFnT).regs iv.i.c)))) || ((!av) && (iv.i.a != 0))) = false) => (ql 3 2 (HS.hc z (i := 2) rfl) rfl rfl)) (vA (fun (A : (!dv) = true) (U : (((((av && (!(aE (⟨c.params, c.regs, c.blocks⟩ : VFnT).regs iv.i.a))) || (bv && (!(aE (⟨c.params, c.regs, c.blocks⟩ : VFnT).regs iv.i.b)))) || (dv && (!(aE (⟨c.params, c.regs, c.blocks⟩ : VFnT).regs iv.i.c)))) || ((!av) && (iv.i.a != 0))) || ((!bv) && (iv.i.b != 0))) = false) => (ql 3 3 (HS.hc z (i := 2) rfl) rfl rfl)) (vA (fun (A : (!nv) = true) (U : ((((((av && (!(aE (⟨c.params, c.regs, c.blocks⟩ : VFnT).regs iv.i.a))) || (bv && (!(aE (⟨c.params, c.regs, c.blocks⟩ : VFnT).regs iv.i.b)))) || (dv && (!(aE (⟨c.params, c.regs, c.blocks⟩ : VFnT).regs iv.i.c)))) || ((!av) && (iv.i.a != 0))) || ((!bv) && (iv.i.b != 0))) || ((!dv) && (iv.i.c != 0))) = false) => (ql 2 4 (HS.hc z (i := 2) rfl) rfl rfl)) trivial)))))))))) rfl fun _ => ?_
    refine au 1 3 (v := (((((((av && (!(aE (⟨c.params, c.regs, c.blocks⟩ : VFnT).regs iv.i.a))) || (bv && (!(aE (⟨c.params, c.regs, c.blocks⟩ : VFnT).regs iv.i.b)))) || (dv && (!(aE (⟨c.params, c.regs, c.blocks⟩ : VFnT).regs iv.i.c)))) || ((!av) && (iv.i.a != 0))) || ((!bv) && (iv.i.b != 0))) || ((!dv) && (iv.i.c != 0))) || ((!nv) && (iv.i.n != 0)))) rfl rfl rfl rfl (fun ag => ?_) (fun ag => ?_)
    ·
     have b0 := ag
     try simp only [BS] at b0
     have dn := ag
     refine wR 1 [] 4 4 [] [(4, (.bool false))] trivial rfl fun _ => ?_
     refine am ⟨.inr rfl, _, rfl, false, _, (fT (E) T), (HS.forget z), rfl, (by exact vin_bad3v hal h6 c4 hall hav hbv hdv hnv dn)⟩
    ·
     have b0 := ag
     try simp only [BS] at b0
     have hgood := vin_good3v (params := c.params) hal h6 c4 hall hav hbv hdv hnv ag
     refine wR 3 [(1, .o (iI iv.i.op))] 126 127 [] [(127, (iI iv.i.op))] (vA (ql 3 0 (HS.hc z (i := 2) rfl) rfl rfl) trivial) rfl fun _ => ?_
     refine wR 1 [] 128 129 [] [(128, (.bool (iv.i.op == 33)))] trivial rfl fun _ => ?_
     refine au 1 1 (v := (iv.i.op == 33)) rfl rfl rfl rfl (fun b2 => ?_) (fun b2 => ?_)
     ·
      try simp only [BS] at b2
      refine wR 1 [(1, .o (iI iv.i.n)), (5, .o (iI iv.i.n))] 130 137 [4] [(4, (.bool ((decide ((-4194304 : Int) ≤ iv.i.n)) && (decide (iv.i.n < 4194304)))))] (vA (ql 2 4 (HS.hc z (i := 2) rfl) rfl rfl) (vA (fun (A : (decide ((-4194304 : Int) ≤ iv.i.n)) = true) => (ql 2 4 (HS.hc z (i := 2) rfl) rfl rfl)) trivial)) rfl fun _ => ?_
      refine am ⟨.inr rfl, _, rfl, ((decide ((-4194304 : Int) ≤ iv.i.n)) && (decide (iv.i.n < 4194304))), _, (fT (E) T), (HS.forget z), rfl, (by rw [hgood.1]; first | exact (gh hal hgood.2 (by omega) (by omega) (by omega) (by omega)).symm | (unfold iW; (repeat' split) <;> first | omega | rfl | (rw [Bool.eq_iff_iff] <;> simp)))⟩
     ·
      try simp only [BS] at b2
      refine wR 1 [] 138 139 [] [(138, (.bool (iv.i.op == 6)))] trivial rfl fun _ => ?_
      refine au 1 2 (v := (iv.i.op == 6)) rfl rfl rfl rfl (fun b4 => ?_) (fun b4 => ?_)
      ·
       try simp only [BS] at b4
       refine wR 1 [(1, .o (iI iv.i.n)), (5, .o (iI iv.i.n))] 140 147 [4] [(4, (.bool ((decide ((0 : Int) ≤ iv.i.n)) && (decide (iv.i.n < 8)))))] (vA (ql 2 4 (HS.hc z (i := 2) rfl) rfl rfl) (vA (fun (A : (decide ((0 : Int) ≤ iv.i.n)) = true) => (ql 2 4 (HS.hc z (i := 2) rfl) rfl rfl)) trivial)) rfl fun _ => ?_
       refine am ⟨.inr rfl, _, rfl, ((decide ((0 : Int) ≤ iv.i.n)) && (decide (iv.i.n < 8))), _, (fT (E) T), (HS.forget z), rfl, (by rw [hgood.1]; first | exact (gh hal hgood.2 (by omega) (by omega) (by omega) (by omega)).symm | (unfold iW; (repeat' split) <;> first | omega | rfl | (rw [Bool.eq_iff_iff] <;> simp)))⟩
      ·
       try simp only [BS] at b4
       refine wR 1 [] 148 149 [] [(148, (.bool (iv.i.op == 34)))] trivial rfl fun _ => ?_
       refine au 1 0 (v := (iv.i.op == 34)) rfl rfl rfl rfl (fun ap => ?_) (fun ap => ?_)
       ·
        have b5 := ap
        try simp only [BS] at b5
        refine bx 1 (v := (iv.i.op == 34)) rfl ap rfl rfl ?_
        refine wR 1 [(1, .o (iI iv.i.n)), (5, .o (iI iv.i.n))] 151 158 [4] [(4, (.bool ((decide ((0 : Int) ≤ iv.i.n)) && (decide (iv.i.n < 4)))))] (vA (ql 2 4 (HS.hc z (i := 2) rfl) rfl rfl) (vA (fun (A : (decide ((0 : Int) ≤ iv.i.n)) = true) => (ql 2 4 (HS.hc z (i := 2) rfl) rfl rfl)) trivial)) rfl fun _ => ?_
        refine am ⟨.inr rfl, _, rfl, ((decide ((0 : Int) ≤ iv.i.n)) && (decide (iv.i.n < 4))), _, (fT (E) T), (HS.forget z), rfl, (by rw [hgood.1]; first | exact (gh hal hgood.2 (by omega) (by omega) (by omega) (by omega)).symm | (unfold iW; (repeat' split) <;> first | omega | rfl | (rw [Bool.eq_iff_iff] <;> simp)))⟩
       ·
        have b5 := ap
        try simp only [BS] at b5
        refine wR 1 [] 148 150 [] [(148, (.bool (iv.i.op == 35)))] trivial rfl fun _ => ?_
        refine au 1 1 (v := (iv.i.op == 35)) rfl rfl rfl rfl (fun b7 => ?_) (fun b7 => ?_)
        ·
         try simp only [BS] at b7
         refine wR 1 [(1, .o (iI iv.i.n)), (5, .o (iI iv.i.n))] 151 158 [4] [(4, (.bool ((decide ((0 : Int) ≤ iv.i.n)) && (decide (iv.i.n < 4)))))] (vA (ql 2 4 (HS.hc z (i := 2) rfl) rfl rfl) (vA (fun (A : (decide ((0 : Int) ≤ iv.i.n)) = true) => (ql 2 4 (HS.hc z (i := 2) rfl) rfl rfl)) trivial)) rfl fun _ => ?_
         refine am ⟨.inr rfl, _, rfl, ((decide ((0 : Int) ≤ iv.i.n)) && (decide (iv.i.n < 4))), _, (fT (E) T), (HS.forget z), rfl, (by rw [hgood.1]; first | exact (gh hal hgood.2 (by omega) (by omega) (by omega) (by omega)).symm | (unfold iW; (repeat' split) <;> first | omega | rfl | (rw [Bool.eq_iff_iff] <;> simp)))⟩
        ·
         try simp only [BS] at b7
         refine wR 1 [] 159 160 [] [(159, (.bool (iv.i.op == 38)))] trivial rfl fun _ => ?_
         refine au 1 3 (v := (iv.i.op == 38)) rfl rfl rfl rfl (fun cd => ?_) (fun cd => ?_)
         ·
          try simp only [BS] at cd
          refine wR 1 [(1, .o (iI iv.i.n)), (5, .o (iI iv.i.n)), (7, .o (iI c.params))] 161 170 [4] [(4, (.bool ((decide ((0 : Int) ≤ iv.i.n)) && (decide (iv.i.n < c.params)))))] (vA (ql 2 4 (HS.hc z (i := 2) rfl) rfl rfl) (vA (fun (A : (decide ((0 : Int) ≤ iv.i.n)) = true) => (ql 2 4 (HS.hc z (i := 2) rfl) rfl rfl)) (vA (fun (A : (decide ((0 : Int) ≤ iv.i.n)) = true) => (ql 3 0 (HS.hc z (i := 0) rfl) rfl rfl)) trivial))) rfl fun _ => ?_
          refine am ⟨.inr rfl, _, rfl, ((decide ((0 : Int) ≤ iv.i.n)) && (decide (iv.i.n < c.params))), _, (fT (E) T), (HS.forget z), rfl, (by rw [hgood.1]; first | exact (gh hal hgood.2 (by omega) (by omega) (by omega) (by omega)).symm | (unfold iW; (repeat' split) <;> first | omega | rfl | (rw [Bool.eq_iff_iff] <;> simp)))⟩
         ·
          try simp only [BS] at cd
          refine wR 1 [] 4 4 [] [(4, (.bool true))] trivial rfl fun _ => ?_
          refine am ⟨.inr rfl, _, rfl, true, _, (fT (E) T), (HS.forget z), rfl, (by rw [hgood.1]; first | exact (gh hal hgood.2 (by omega) (by omega) (by omega) (by omega)).symm | (unfold iW; (repeat' split) <;> first | omega | rfl | (rw [Bool.eq_iff_iff] <;> simp)))⟩
set_option maxHeartbeats 1000000 in
theorem valid_c (ex : FuncId) {E : Option Addr} {J : Nat} (c : VFnT) {F : Fz} {H : Heap} {R : List Fp} (hs : HS (.of H []) F H [] R) (es : in64 c.params) (et : in64 c.regs) (Z : SR F (.slice E c.blocks.length J) c.blocks) (hT : TB 37 tabC F) (hv : ∀ j, (c.blocks.getD j default).ins.length ≤ 9223372036854775807) : C Tryd.prog 1 (KT 60 ex 37 tabC) 39 [(.agg ⟨[(iI c.params), (iI c.regs), (.slice E c.blocks.length J)]⟩)] H fun v H' => ∃ (r : Bool) (F' : Fz), Fz.le F F' ∧ HS (.of H []) F' H' [] R ∧ v = .bool r ∧ r = ey c := by
 refine aK Tryd.func39 rfl rfl ?_
 refine aw 1 rfl ?_
 refine ah ?_
 refine bf (dQ hs rfl rfl) rfl rfl ?_
 rintro _ H2 _ ⟨b1, rfl, U, _⟩
 let co : Fp := [(b1, .cells [(iI c.params), (iI c.regs), (.slice E c.blocks.length J)] none false)]
 have U : HS _ _ _ [co] _ := U
 refine wa (.bool false) rfl rfl rfl ?_
 refine ao 3 rfl ?_
 refine wR 1 [(1, .o (iI c.params)), (5, .o (iI c.params)), (10, .o (iI c.regs)), (15, .o (iI c.regs)), (20, .o (.slice E c.blocks.length J)), (26, .o (.slice E c.blocks.length J))] 10 39 [] [(39, (.bool ((((((decide (c.params < 0)) || (decide ((6 : Int) < c.params))) || (decide (c.regs < 0))) || (decide ((3000 : Int) < c.regs))) || (decide ((c.blocks.length : Int) < 1))) || (decide ((1000 : Int) < (c.blocks.length : Int))))))] (vA (ql 3 0 (HS.hc U (i := 0) rfl) rfl rfl) (vA (fun (T : (decide (c.params < 0)) = false) => (ql 3 0 (HS.hc U (i := 0) rfl) rfl rfl)) (vA (fun (T : ((decide (c.params < 0)) || (decide ((6 : Int) < c.params))) = false) => (ql 3 1 (HS.hc U (i := 0) rfl) rfl rfl)) (vA (fun (T : (((decide (c.params < 0)) || (decide ((6 : Int) < c.params))) || (decide (c.regs < 0))) = false) => (ql 3 1 (HS.hc U (i := 0) rfl) rfl rfl)) (vA (fun (T : ((((decide (c.params < 0)) || (decide ((6 : Int) < c.params))) || (decide (c.regs < 0))) || (decide ((3000 : Int) < c.regs))) = false) => (ql 22 2 (HS.hc U (i := 0) rfl) rfl rfl)) (vA (fun (T : (((((decide (c.params < 0)) || (decide ((6 : Int) < c.params))) || (decide (c.regs < 0))) || (decide ((3000 : Int) < c.regs))) || (decide ((c.blocks.length : Int) < 1))) = false) => (ql 22 2 (HS.hc U (i := 0) rfl) rfl rfl)) trivial)))))) rfl fun _ => ?_
 refine au 1 2 (v := ((((((decide (c.params < 0)) || (decide ((6 : Int) < c.params))) || (decide (c.regs < 0))) || (decide ((3000 : Int) < c.regs))) || (decide ((c.blocks.length : Int) < 1))) || (decide ((1000 : Int) < (c.blocks.length : Int))))) rfl rfl rfl rfl (fun c4 => ?_) (fun c4 => ?_)
 ·
  try simp only [BS] at c4
  refine wR 1 [] 2 2 [] [(2, (.bool false))] trivial rfl fun _ => ?_
  refine am ⟨.inr rfl, _, rfl, false, _, fR, (HS.forget U), rfl, (by exact val_lim (by omega))⟩
 ·
  try simp only [BS] at c4
  have hlim : 0 ≤ c.params ∧ c.params ≤ 6 ∧ 0 ≤ c.regs ∧ c.regs ≤ 3000 ∧ 1 ≤ c.blocks.length ∧ c.blocks.length ≤ 1000 := by omega
  refine wR 2 [] 40 40 [3] [(3, (.func (.func 67) #[] #[(.pointer (some ⟨b1, 0, none⟩))]))] trivial rfl fun _ => ?_
  refine wR 3 [] 41 41 [4] [(4, (.func (.func 68) #[] #[(.pointer (some ⟨b1, 0, none⟩))]))] trivial rfl fun _ => ?_
  refine wR 2 [(1, .o (.slice E c.blocks.length J))] 42 45 [] [(43, (.slice E c.blocks.length J)), (44, (iI (c.blocks.length : Int))), (45, (iI 0))] (vA (ql 22 2 (HS.hc U (i := 0) rfl) rfl rfl) trivial) rfl fun _ => ?_
  refine aL (fun (mm : Nat) f H' => ∃ (k : Nat) (F' : Fz), Fz.le F F' ∧ HS (Base.of H []) F' H' [co] R ∧ bc f [(1, (.pointer (some ⟨b1, 0, none⟩))), (3, (.func (.func 67) #[] #[(.pointer (some ⟨b1, 0, none⟩))])), (4, (.func (.func 68) #[] #[(.pointer (some ⟨b1, 0, none⟩))])), (43, (.slice E c.blocks.length J)), (44, (iI (c.blocks.length : Int))), (45, (iI (k : Int)))] ∧ mm = c.blocks.length - k ∧ (k ≤ c.blocks.length) ∧ (∀ j, j < k → j0 c.params c.regs (c.blocks.length : Int) (c.blocks.getD j default) = true)) _ ⟨0, _, fR, U, (agC rfl (agC rfl (agC rfl (agC rfl (agC rfl (agC rfl agN)))))), rfl, (by first | assumption | omega | (simp at *; omega)), (by exact dI)⟩ ?_
  rintro fi f9 H9 ⟨k, F9, O, a8, c6, rfl, hk, ha⟩ bb
  refine aO _ c6 (fun _ => ?_)
  clear c6
  replace hT := hT.mono O
  replace Z := Z.mono O
  have hvk := hv k
  refine aw 1 rfl ?_
  refine wR 2 [] 46 46 [] [(46, (.bool (decide ((k : Int) < (c.blocks.length : Int)))))] trivial rfl fun _ => ?_
  refine au 4 5 (v := (decide ((k : Int) < (c.blocks.length : Int)))) rfl rfl rfl rfl (fun b2 => ?_) (fun b2 => ?_)
  ·
   try simp only [BS] at b2
   refine ah ?_
   obtain ⟨I, ci⟩ := Sv.view (SR.sv Z a8)
   obtain ⟨dk, dl, dn, ds, ap⟩ := BlkT.fx (ci k)
   let c0 : Value := (.agg ⟨[(.slice (cA (I k) 0) (c.blocks.getD k default).ins.length (cK (I k) 0)), (iI (c.blocks.getD k default).fin), (iI (c.blocks.getD k default).reg), (iI (c.blocks.getD k default).tgt), (iI (c.blocks.getD k default).els)]⟩)
   refine wRo 2 0 [(1, .o c0)] 47 48 [] [(48, c0)] (vA (Sv.ix (j := (k : Int)) (SR.sv Z a8) (by omega) (by omega)) (vA (qn 42 0 5 (BlkT.vw (ci k) (by omega)) rfl rfl rfl rfl) trivial)) rfl fun _ => ?_
   refine bf (bY a8 rfl) rfl rfl ?_
   rintro _ e2 _ ⟨b0, rfl, a5, _⟩
   have a5 : HS _ _ _ [_, [(b0, .cells [(.slice none 0 0), (iI 0), (iI 0), (iI 0), (iI 0)] none false)]] _ := a5
   refine aN (aC (q := 1) a5 rfl rfl rfl rfl rfl rfl rfl rfl rfl) rfl ?_
   rintro _ e3 _ ⟨av, _⟩
   let c7 : Fp := [(b0, .cells [(.slice (cA (I k) 0) (c.blocks.getD k default).ins.length (cK (I k) 0)), (iI (c.blocks.getD k default).fin), (iI (c.blocks.getD k default).reg), (iI (c.blocks.getD k default).tgt), (iI (c.blocks.getD k default).els)] none false)]
   have av : HS _ _ _ [_, c7] _ := av
   refine ao 3 rfl ?_
   refine wR 2 [(1, .o (.slice (cA (I k) 0) (c.blocks.getD k default).ins.length (cK (I k) 0)))] 49 52 [] [(50, (.slice (cA (I k) 0) (c.blocks.getD k default).ins.length (cK (I k) 0))), (51, (iI ((c.blocks.getD k default).ins.length : Int))), (52, (iI 0))] (vA (ql 40 0 (HS.hc av (i := 1) rfl) rfl rfl) trivial) rfl fun _ => ?_
   refine aL (fun (mm : Nat) f H' => ∃ (i : Nat) (F' : Fz), Fz.le F9 F' ∧ HS (Base.of H []) F' H' [co, c7] R ∧ bc f [(1, (.pointer (some ⟨b1, 0, none⟩))), (3, (.func (.func 67) #[] #[(.pointer (some ⟨b1, 0, none⟩))])), (4, (.func (.func 68) #[] #[(.pointer (some ⟨b1, 0, none⟩))])), (6, (.pointer (some ⟨b0, 0, none⟩))), (43, (.slice E c.blocks.length J)), (44, (iI (c.blocks.length : Int))), (45, (iI (k : Int))), (46, (.bool (decide ((k : Int) < (c.blocks.length : Int))))), (48, c0), (50, (.slice (cA (I k) 0) (c.blocks.getD k default).ins.length (cK (I k) 0))), (51, (iI ((c.blocks.getD k default).ins.length : Int))), (52, (iI (i : Int)))] ∧ mm = (c.blocks.getD k default).ins.length - i ∧ (i ≤ (c.blocks.getD k default).ins.length) ∧ (∀ j, j < i → fg c.params c.regs ((c.blocks.getD k default).ins.getD j default) = true)) _ ⟨0, _, fR, av, (agC rfl (agC rfl (agC rfl (agC rfl (agC rfl (agC rfl (agC rfl (agC rfl (agC rfl (agC rfl (agC rfl (agC rfl agN)))))))))))), rfl, (by first | assumption | omega | (simp at *; omega)), (by exact dI)⟩ ?_
   rintro ez fd a0 ⟨i, e0, A, z, ch, rfl, hi, hb⟩ dd
   refine aO _ ch (fun _ => ?_)
   clear ch
   replace hT := hT.mono A
   replace Z := Z.mono A
   replace ap := ap.mono A
   refine aw 1 rfl ?_
   refine wR 2 [] 53 53 [] [(53, (.bool (decide ((i : Int) < ((c.blocks.getD k default).ins.length : Int)))))] trivial rfl fun _ => ?_
   refine au 4 5 (v := (decide ((i : Int) < ((c.blocks.getD k default).ins.length : Int)))) rfl rfl rfl rfl (fun b3 => ?_) (fun b3 => ?_)
   ·
    try simp only [BS] at b3
    refine ah ?_
    obtain ⟨ar, cl⟩ := Sv.view (SR.sv ap z)
    obtain ⟨dt, dv, d1, d2, eb, c3⟩ := VInT.fx (cl i)
    let bl : Value := (.agg ⟨[(iI ((c.blocks.getD k default).ins.getD i default).i.op), (iI ((c.blocks.getD k default).ins.getD i default).i.a), (iI ((c.blocks.getD k default).ins.getD i default).i.b), (iI ((c.blocks.getD k default).ins.getD i default).i.c), (iI ((c.blocks.getD k default).ins.getD i default).i.n), (.slice (cA (ar i) 5) ((c.blocks.getD k default).ins.getD i default).args.length (cK (ar i) 5))]⟩)
    refine wRo 2 0 [(1, .o bl)] 54 55 [] [(55, bl)] (vA (Sv.ix (j := (i : Int)) (SR.sv ap z) (by omega) (by omega)) (vA (qn 47 0 6 (VInT.vw (cl i) (by omega)) rfl rfl rfl rfl) trivial)) rfl fun _ => ?_
    refine bf (bY z rfl) rfl rfl ?_
    rintro _ e4 _ ⟨c5, rfl, a6, _⟩
    have a6 : HS _ _ _ [_, _, [(c5, .cells [(iI 0), (iI 0), (iI 0), (iI 0), (iI 0), (.slice none 0 0)] none false)]] _ := a6
    refine aN (aC (q := 2) a6 rfl rfl rfl rfl rfl rfl rfl rfl rfl) rfl ?_
    rintro _ e5 _ ⟨ad, _⟩
    have ad : HS _ _ _ [_, _, [(c5, .cells [(iI ((c.blocks.getD k default).ins.getD i default).i.op), (iI ((c.blocks.getD k default).ins.getD i default).i.a), (iI ((c.blocks.getD k default).ins.getD i default).i.b), (iI ((c.blocks.getD k default).ins.getD i default).i.c), (iI ((c.blocks.getD k default).ins.getD i default).i.n), (.slice (cA (ar i) 5) ((c.blocks.getD k default).ins.getD i default).args.length (cK (ar i) 5))] none false)]] _ := ad
    refine ao 2 rfl ?_
    refine ah ?_
    let c8 : Value := (.agg ⟨[(iI c.params), (iI c.regs), (.slice E c.blocks.length J)]⟩)
    refine wRo 2 0 [(0, .o c8), (1, .o bl)] 56 57 [] [(56, c8), (57, bl)] (vA (qn 24 0 3 (HS.hc ad (i := 0) rfl) rfl rfl rfl rfl) (vA (qn 47 0 6 (HS.hc ad (i := 2) rfl) rfl rfl rfl rfl) trivial)) rfl fun _ => ?_
    refine aJ (ay rfl rfl rfl) rfl rfl (vinstr_c ex (⟨c.params, c.regs, c.blocks⟩ : VFnT) (⟨(⟨((c.blocks.getD k default).ins.getD i default).i.op, ((c.blocks.getD k default).ins.getD i default).i.a, ((c.blocks.getD k default).ins.getD i default).i.b, ((c.blocks.getD k default).ins.getD i default).i.c, ((c.blocks.getD k default).ins.getD i default).i.n⟩ : InsT), ((c.blocks.getD k default).ins.getD i default).args⟩ : VInT) (HS.call ad) (by omega) (by omega) Z (by omega) (by omega) (by omega) (by omega) (by omega) c3 hT) ?_
    rintro _ e6 ⟨f1, e1, cd, ag, rfl, rfl⟩
    replace ag := HS.back ad rfl ag
    have ag : HS _ _ _ [_, _, _] _ := ag
    refine wRo 1 3 [] 59 59 [] [(59, (.bool (!(fg (⟨c.params, c.regs, c.blocks⟩ : VFnT).params (⟨c.params, c.regs, c.blocks⟩ : VFnT).regs (⟨(⟨((c.blocks.getD k default).ins.getD i default).i.op, ((c.blocks.getD k default).ins.getD i default).i.a, ((c.blocks.getD k default).ins.getD i default).i.b, ((c.blocks.getD k default).ins.getD i default).i.c, ((c.blocks.getD k default).ins.getD i default).i.n⟩ : InsT), ((c.blocks.getD k default).ins.getD i default).args⟩ : VInT)))))] trivial rfl fun _ => ?_
    refine ao 1 rfl ?_
    refine au 1 2 (v := (!(fg (⟨c.params, c.regs, c.blocks⟩ : VFnT).params (⟨c.params, c.regs, c.blocks⟩ : VFnT).regs (⟨(⟨((c.blocks.getD k default).ins.getD i default).i.op, ((c.blocks.getD k default).ins.getD i default).i.a, ((c.blocks.getD k default).ins.getD i default).i.b, ((c.blocks.getD k default).ins.getD i default).i.c, ((c.blocks.getD k default).ins.getD i default).i.n⟩ : InsT), ((c.blocks.getD k default).ins.getD i default).args⟩ : VInT)))) rfl rfl rfl rfl (fun a7 => ?_) (fun a7 => ?_)
    ·
     try simp only [BS] at a7
     have h3 := a7
     refine wR 1 [] 2 2 [] [(2, (.bool false))] trivial rfl fun _ => ?_
     refine am ⟨.inr rfl, _, rfl, false, _, (fT (fT (O) A) cd), (HS.forget ag), rfl, (by exact i6 (br (by omega) (blk_no (br (by omega) h3))))⟩
    ·
     try simp only [BS] at a7
     refine wR 1 [] 52 52 [60] [(52, (iI ((i : Int) + 1)))] (vA (vi (n := (i : Int) + 1) (by omega)) trivial) rfl fun _ => ?_
     refine dd _ _ _ ?_ ⟨i + 1, _, (fT (A) cd), (HS.sub ag (List.sublist_append_left _ _)), (agC rfl (agC rfl (agC rfl (agC rfl (agC rfl (agC rfl (agC rfl (agC rfl (agC rfl (agC rfl (agC rfl (agC rfl agN)))))))))))), rfl, (by first | assumption | omega | (simp at *; omega)), (by exact bM hb (by assumption))⟩
     omega
   ·
    try simp only [BS] at b3
    have hal := bw hb (by omega)
    refine wR 3 [] 1 0 [9] [(9, (.bool false))] trivial rfl fun _ => ?_
    refine wR 3 [(1, .o (iI (c.blocks.getD k default).fin))] 61 62 [] [(62, (iI (c.blocks.getD k default).fin))] (vA (ql 3 1 (HS.hc z (i := 1) rfl) rfl rfl) trivial) rfl fun _ => ?_
    refine wR 1 [] 63 64 [] [(63, (.bool ((c.blocks.getD k default).fin == 1)))] trivial rfl fun _ => ?_
    refine au 0 1 (v := ((c.blocks.getD k default).fin == 1)) rfl rfl rfl rfl (fun b4 => ?_) (fun b4 => ?_)
    ·
     try simp only [BS] at b4
     refine wR 3 [(2, .o (iI (c.blocks.getD k default).tgt)), (3, .o (.bool (aE ((⟨c.params, c.regs, c.blocks⟩ : VFnT).blocks.length : Int) (c.blocks.getD k default).tgt))), (6, .o (iI (c.blocks.getD k default).reg)), (11, .o (iI (c.blocks.getD k default).els))] 65 78 [9] [(9, (.bool ((aE ((⟨c.params, c.regs, c.blocks⟩ : VFnT).blocks.length : Int) (c.blocks.getD k default).tgt && ((c.blocks.getD k default).reg == 0)) && ((c.blocks.getD k default).els == 0))))] (vA (ql 3 3 (HS.hc z (i := 1) rfl) rfl rfl) (vA (jZ ex (c.blocks.getD k default).tgt (⟨c.params, c.regs, c.blocks⟩ : VFnT) a0 (by omega) (HS.hc z (i := 0) rfl) (by omega) (by omega)) (vA (fun (T : (aE ((⟨c.params, c.regs, c.blocks⟩ : VFnT).blocks.length : Int) (c.blocks.getD k default).tgt) = true) => (ql 3 2 (HS.hc z (i := 1) rfl) rfl rfl)) (vA (fun (T : (aE ((⟨c.params, c.regs, c.blocks⟩ : VFnT).blocks.length : Int) (c.blocks.getD k default).tgt && ((c.blocks.getD k default).reg == 0)) = true) => (ql 3 4 (HS.hc z (i := 1) rfl) rfl rfl)) trivial)))) rfl fun _ => ?_
     refine wR 1 [] 133 134 [] [(134, (.bool (!((aE ((⟨c.params, c.regs, c.blocks⟩ : VFnT).blocks.length : Int) (c.blocks.getD k default).tgt && ((c.blocks.getD k default).reg == 0)) && ((c.blocks.getD k default).els == 0)))))] trivial rfl fun _ => ?_
     refine au 1 2 (v := (!((aE ((⟨c.params, c.regs, c.blocks⟩ : VFnT).blocks.length : Int) (c.blocks.getD k default).tgt && ((c.blocks.getD k default).reg == 0)) && ((c.blocks.getD k default).els == 0)))) rfl rfl rfl rfl (fun a1 => ?_) (fun a1 => ?_)
     ·
      try simp only [BS] at a1
      have V := a1
      try simp only [bg] at V
      refine wR 1 [] 2 2 [] [(2, (.bool false))] trivial rfl fun _ => ?_
      refine am ⟨.inr rfl, _, rfl, false, _, (fT (O) A), (HS.forget z), rfl, (by exact i6 (br (k := k) (by omega) (iP (Bool.eq_false_iff.2 fun hv => by rw [cj] at hv; omega))))⟩
     ·
      try simp only [BS] at a1
      have V := a1
      try simp only [bg] at V
      refine wR 1 [] 45 45 [135] [(45, (iI ((k : Int) + 1)))] (vA (vi (n := (k : Int) + 1) (by omega)) trivial) rfl fun _ => ?_
      refine bb _ _ _ ?_ ⟨k + 1, _, (fT (O) A), (HS.sub z (List.sublist_append_left _ _)), (agC rfl (agC rfl (agC rfl (agC rfl (agC rfl (agC rfl agN)))))), rfl, (by first | assumption | omega | (simp at *; omega)), (by exact bM ha (iO hal (by first | assumption | (rw [cj]; omega))))⟩
      omega
    ·
     try simp only [BS] at b4
     refine wR 1 [] 79 80 [] [(79, (.bool ((c.blocks.getD k default).fin == 2)))] trivial rfl fun _ => ?_
     refine au 0 1 (v := ((c.blocks.getD k default).fin == 2)) rfl rfl rfl rfl (fun b5 => ?_) (fun b5 => ?_)
     ·
      try simp only [BS] at b5
      refine wR 3 [(2, .o (iI (c.blocks.getD k default).tgt)), (3, .o (.bool (aE ((⟨c.params, c.regs, c.blocks⟩ : VFnT).blocks.length : Int) (c.blocks.getD k default).tgt))), (7, .o (iI (c.blocks.getD k default).els)), (8, .o (.bool (aE ((⟨c.params, c.regs, c.blocks⟩ : VFnT).blocks.length : Int) (c.blocks.getD k default).els))), (13, .o (iI (c.blocks.getD k default).reg)), (14, .o (.bool (aE (⟨c.params, c.regs, c.blocks⟩ : VFnT).regs (c.blocks.getD k default).reg)))] 81 96 [9] [(9, (.bool ((aE ((⟨c.params, c.regs, c.blocks⟩ : VFnT).blocks.length : Int) (c.blocks.getD k default).tgt && aE ((⟨c.params, c.regs, c.blocks⟩ : VFnT).blocks.length : Int) (c.blocks.getD k default).els) && aE (⟨c.params, c.regs, c.blocks⟩ : VFnT).regs (c.blocks.getD k default).reg)))] (vA (ql 3 3 (HS.hc z (i := 1) rfl) rfl rfl) (vA (jZ ex (c.blocks.getD k default).tgt (⟨c.params, c.regs, c.blocks⟩ : VFnT) a0 (by omega) (HS.hc z (i := 0) rfl) (by omega) (by omega)) (vA (fun (T : (aE ((⟨c.params, c.regs, c.blocks⟩ : VFnT).blocks.length : Int) (c.blocks.getD k default).tgt) = true) => (ql 3 4 (HS.hc z (i := 1) rfl) rfl rfl)) (vA (fun (T : (aE ((⟨c.params, c.regs, c.blocks⟩ : VFnT).blocks.length : Int) (c.blocks.getD k default).tgt) = true) => (jZ ex (c.blocks.getD k default).els (⟨c.params, c.regs, c.blocks⟩ : VFnT) a0 (by omega) (HS.hc z (i := 0) rfl) (by omega) (by omega))) (vA (fun (T : (aE ((⟨c.params, c.regs, c.blocks⟩ : VFnT).blocks.length : Int) (c.blocks.getD k default).tgt && aE ((⟨c.params, c.regs, c.blocks⟩ : VFnT).blocks.length : Int) (c.blocks.getD k default).els) = true) => (ql 3 2 (HS.hc z (i := 1) rfl) rfl rfl)) (vA (fun (T : (aE ((⟨c.params, c.regs, c.blocks⟩ : VFnT).blocks.length : Int) (c.blocks.getD k default).tgt && aE ((⟨c.params, c.regs, c.blocks⟩ : VFnT).blocks.length : Int) (c.blocks.getD k default).els) = true) => (cReg_c_q ex (c.blocks.getD k default).reg (⟨c.params, c.regs, c.blocks⟩ : VFnT) a0 (by (try simp only [BS] at T); omega) (HS.hc z (i := 0) rfl) (by (try simp only [BS] at T); omega) (by (try simp only [BS] at T); omega))) trivial)))))) rfl fun _ => ?_
      refine wR 1 [] 133 134 [] [(134, (.bool (!((aE ((⟨c.params, c.regs, c.blocks⟩ : VFnT).blocks.length : Int) (c.blocks.getD k default).tgt && aE ((⟨c.params, c.regs, c.blocks⟩ : VFnT).blocks.length : Int) (c.blocks.getD k default).els) && aE (⟨c.params, c.regs, c.blocks⟩ : VFnT).regs (c.blocks.getD k default).reg))))] trivial rfl fun _ => ?_
      refine au 1 2 (v := (!((aE ((⟨c.params, c.regs, c.blocks⟩ : VFnT).blocks.length : Int) (c.blocks.getD k default).tgt && aE ((⟨c.params, c.regs, c.blocks⟩ : VFnT).blocks.length : Int) (c.blocks.getD k default).els) && aE (⟨c.params, c.regs, c.blocks⟩ : VFnT).regs (c.blocks.getD k default).reg))) rfl rfl rfl rfl (fun a2 => ?_) (fun a2 => ?_)
      ·
       try simp only [BS] at a2
       have V := a2
       try simp only [iq, bg] at V
       refine wR 1 [] 2 2 [] [(2, (.bool false))] trivial rfl fun _ => ?_
       refine am ⟨.inr rfl, _, rfl, false, _, (fT (O) A), (HS.forget z), rfl, (by exact i6 (br (k := k) (by omega) (iP (Bool.eq_false_iff.2 fun hv => by rw [cj] at hv; omega))))⟩
      ·
       try simp only [BS] at a2
       have V := a2
       try simp only [bg] at V
       refine wR 1 [] 45 45 [135] [(45, (iI ((k : Int) + 1)))] (vA (vi (n := (k : Int) + 1) (by omega)) trivial) rfl fun _ => ?_
       refine bb _ _ _ ?_ ⟨k + 1, _, (fT (O) A), (HS.sub z (List.sublist_append_left _ _)), (agC rfl (agC rfl (agC rfl (agC rfl (agC rfl (agC rfl agN)))))), rfl, (by first | assumption | omega | (simp at *; omega)), (by exact bM ha (iO hal (by first | assumption | (rw [cj]; omega))))⟩
       omega
     ·
      try simp only [BS] at b5
      refine wR 1 [] 97 98 [] [(97, (.bool ((c.blocks.getD k default).fin == 3)))] trivial rfl fun _ => ?_
      refine au 0 1 (v := ((c.blocks.getD k default).fin == 3)) rfl rfl rfl rfl (fun b6 => ?_) (fun b6 => ?_)
      ·
       try simp only [BS] at b6
       refine wR 3 [(2, .o (iI (c.blocks.getD k default).reg)), (3, .o (.bool (aE (⟨c.params, c.regs, c.blocks⟩ : VFnT).regs (c.blocks.getD k default).reg))), (6, .o (iI (c.blocks.getD k default).tgt)), (11, .o (iI (c.blocks.getD k default).els))] 99 112 [9] [(9, (.bool ((aE (⟨c.params, c.regs, c.blocks⟩ : VFnT).regs (c.blocks.getD k default).reg && ((c.blocks.getD k default).tgt == 0)) && ((c.blocks.getD k default).els == 0))))] (vA (ql 3 2 (HS.hc z (i := 1) rfl) rfl rfl) (vA (cReg_c_q ex (c.blocks.getD k default).reg (⟨c.params, c.regs, c.blocks⟩ : VFnT) a0 (by omega) (HS.hc z (i := 0) rfl) (by omega) (by omega)) (vA (fun (T : (aE (⟨c.params, c.regs, c.blocks⟩ : VFnT).regs (c.blocks.getD k default).reg) = true) => (ql 3 3 (HS.hc z (i := 1) rfl) rfl rfl)) (vA (fun (T : (aE (⟨c.params, c.regs, c.blocks⟩ : VFnT).regs (c.blocks.getD k default).reg && ((c.blocks.getD k default).tgt == 0)) = true) => (ql 3 4 (HS.hc z (i := 1) rfl) rfl rfl)) trivial)))) rfl fun _ => ?_
       refine wR 1 [] 133 134 [] [(134, (.bool (!((aE (⟨c.params, c.regs, c.blocks⟩ : VFnT).regs (c.blocks.getD k default).reg && ((c.blocks.getD k default).tgt == 0)) && ((c.blocks.getD k default).els == 0)))))] trivial rfl fun _ => ?_
       refine au 1 2 (v := (!((aE (⟨c.params, c.regs, c.blocks⟩ : VFnT).regs (c.blocks.getD k default).reg && ((c.blocks.getD k default).tgt == 0)) && ((c.blocks.getD k default).els == 0)))) rfl rfl rfl rfl (fun a3 => ?_) (fun a3 => ?_)
       ·
        try simp only [BS] at a3
        have V := a3
        try simp only [bg] at V
        refine wR 1 [] 2 2 [] [(2, (.bool false))] trivial rfl fun _ => ?_
        refine am ⟨.inr rfl, _, rfl, false, _, (fT (O) A), (HS.forget z), rfl, (by exact i6 (br (k := k) (by omega) (iP (Bool.eq_false_iff.2 fun hv => by rw [cj] at hv; omega))))⟩
       ·
        try simp only [BS] at a3
        have V := a3
        try simp only [bg] at V
        refine wR 1 [] 45 45 [135] [(45, (iI ((k : Int) + 1)))] (vA (vi (n := (k : Int) + 1) (by omega)) trivial) rfl fun _ => ?_
        refine bb _ _ _ ?_ ⟨k + 1, _, (fT (O) A), (HS.sub z (List.sublist_append_left _ _)), (agC rfl (agC rfl (agC rfl (agC rfl (agC rfl (agC rfl agN)))))), rfl, (by first | assumption | omega | (simp at *; omega)), (by exact bM ha (iO hal (by first | assumption | (rw [cj]; omega))))⟩
        omega
      ·
       try simp only [BS] at b6
       refine wR 1 [] 113 114 [] [(113, (.bool ((c.blocks.getD k default).fin == 4)))] trivial rfl fun _ => ?_
       refine au 0 3 (v := ((c.blocks.getD k default).fin == 4)) rfl rfl rfl rfl (fun b7 => ?_) (fun b7 => ?_)
       ·
        try simp only [BS] at b7
        refine wR 3 [(1, .o (iI (c.blocks.getD k default).tgt)), (5, .o (iI (c.blocks.getD k default).tgt)), (10, .o (iI (c.blocks.getD k default).reg)), (15, .o (iI (c.blocks.getD k default).els))] 115 132 [9] [(9, (.bool ((((decide ((1 : Int) ≤ (c.blocks.getD k default).tgt)) && (decide ((c.blocks.getD k default).tgt < 33554432))) && ((c.blocks.getD k default).reg == 0)) && ((c.blocks.getD k default).els == 0))))] (vA (ql 3 3 (HS.hc z (i := 1) rfl) rfl rfl) (vA (fun (T : (decide ((1 : Int) ≤ (c.blocks.getD k default).tgt)) = true) => (ql 3 3 (HS.hc z (i := 1) rfl) rfl rfl)) (vA (fun (T : ((decide ((1 : Int) ≤ (c.blocks.getD k default).tgt)) && (decide ((c.blocks.getD k default).tgt < 33554432))) = true) => (ql 3 2 (HS.hc z (i := 1) rfl) rfl rfl)) (vA (fun (T : (((decide ((1 : Int) ≤ (c.blocks.getD k default).tgt)) && (decide ((c.blocks.getD k default).tgt < 33554432))) && ((c.blocks.getD k default).reg == 0)) = true) => (ql 3 4 (HS.hc z (i := 1) rfl) rfl rfl)) trivial)))) rfl fun _ => ?_
        refine wR 1 [] 133 134 [] [(134, (.bool (!((((decide ((1 : Int) ≤ (c.blocks.getD k default).tgt)) && (decide ((c.blocks.getD k default).tgt < 33554432))) && ((c.blocks.getD k default).reg == 0)) && ((c.blocks.getD k default).els == 0)))))] trivial rfl fun _ => ?_
        refine au 1 2 (v := (!((((decide ((1 : Int) ≤ (c.blocks.getD k default).tgt)) && (decide ((c.blocks.getD k default).tgt < 33554432))) && ((c.blocks.getD k default).reg == 0)) && ((c.blocks.getD k default).els == 0)))) rfl rfl rfl rfl (fun a4 => ?_) (fun a4 => ?_)
        ·
         try simp only [BS] at a4
         have V := a4
         try simp only [iq, bg] at V
         refine wR 1 [] 2 2 [] [(2, (.bool false))] trivial rfl fun _ => ?_
         refine am ⟨.inr rfl, _, rfl, false, _, (fT (O) A), (HS.forget z), rfl, (by exact i6 (br (k := k) (by omega) (iP (Bool.eq_false_iff.2 fun hv => by rw [cj] at hv; omega))))⟩
        ·
         try simp only [BS] at a4
         have V := a4
         try simp only [iq, bg] at V
         refine wR 1 [] 45 45 [135] [(45, (iI ((k : Int) + 1)))] (vA (vi (n := (k : Int) + 1) (by omega)) trivial) rfl fun _ => ?_
         refine bb _ _ _ ?_ ⟨k + 1, _, (fT (O) A), (HS.sub z (List.sublist_append_left _ _)), (agC rfl (agC rfl (agC rfl (agC rfl (agC rfl (agC rfl agN)))))), rfl, (by first | assumption | omega | (simp at *; omega)), (by exact bM ha (iO hal (by first | assumption | (rw [cj]; omega))))⟩
         omega
       ·
        try simp only [BS] at b7
        refine wR 1 [] 133 134 [] [(134, (.bool true))] trivial rfl fun _ => ?_
        refine bx 1 (v := true) rfl rfl rfl rfl ?_
        refine wR 1 [] 2 2 [] [(2, (.bool false))] trivial rfl fun _ => ?_
        refine am ⟨.inr rfl, _, rfl, false, _, (fT (O) A), (HS.forget z), rfl, (by exact i6 (br (k := k) (by omega) (iP (Bool.eq_false_iff.2 fun hv => by rw [cj] at hv; omega))))⟩
  ·
   try simp only [BS] at b2
   refine wR 1 [] 2 2 [] [(2, (.bool true))] trivial rfl fun _ => ?_
   refine am ⟨.inr rfl, _, rfl, true, _, (O), (HS.forget a8), rfl, (by exact val_yes hlim (bw ha (by omega)))⟩
end Go.Proofs.YtlabedbmgmfbaaaDoor.m3
