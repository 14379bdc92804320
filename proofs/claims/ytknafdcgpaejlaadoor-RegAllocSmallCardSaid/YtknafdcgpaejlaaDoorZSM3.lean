/-
 Which virtual code is valid: the program and the reference, each by a symbolic run. No condition but that the table lies as laid.
-/
import Derived.Test.YtknafdcgpaejlaaDoorZSM2
noncomputable section
namespace Go.Proofs.YtknafdcgpaejlaaDoor.m3
open Go.R
set_option maxRecDepth 10000
set_option linter.unusedVariables false
set_option linter.unusedSimpArgs false
open m1 m2
theorem cBlk_c (ex : FuncId) (n : Int) {A : Option Addr} {E : Nat} {b_c : Nat} (c : VFnT) (H : Heap) (hn : in64 n) (hc_c : HC H.get b_c 0 [(iI c.params), (iI c.regs), (.slice A c.blocks.length E)]) (I : in64 c.params) (J : in64 c.regs) : C Tryd.prog 1 (KT 60 ex 37 tabC) 90 [(iI n), (.pointer (some ⟨b_c, 0, none⟩))] H fun v H' => ∃ (r : Bool), H' = H ∧ v = .bool r ∧ r = aG (c.blocks.length : Int) n := by
 refine aM Tryd.func90 rfl rfl ?_
 refine am 1 rfl ?_
 refine wR 2 [] 3 3 [] [(3, (.bool false))] trivial rfl fun _ => ?_
 refine wR 1 [(5, .o (.slice A c.blocks.length E))] 3 12 [] [(3, (.bool ((decide ((0 : Int) ≤ n)) && (decide (n < (c.blocks.length : Int))))))] (vA (fun (N : (decide ((0 : Int) ≤ n)) = true) => (ql 22 2 hc_c rfl rfl)) trivial) rfl fun _ => ?_
 refine az ⟨.inr rfl, _, rfl, ((decide ((0 : Int) ≤ n)) && (decide (n < (c.blocks.length : Int)))), rfl, rfl, (by rw [Bool.eq_iff_iff, bl]; simp)⟩
theorem jJ (ex : FuncId) (n : Int) {A : Option Addr} {J : Nat} {b_c : Nat} (c : VFnT) (H : Heap) (hn : in64 n) (hc_c : HC H.get b_c 0 [(iI c.params), (iI c.regs), (.slice A c.blocks.length J)]) (E : in64 c.params) (I : in64 c.regs) : C Tryd.prog 1 (KT 60 ex 37 tabC) 90 [(iI n), (.pointer (some ⟨b_c, 0, none⟩))] H fun v H' => v = (.bool (aG (c.blocks.length : Int) n)) ∧ H' = H :=
 cq (cBlk_c ex n c H hn hc_c E I) (by rintro _ _ ⟨_, rfl, rfl, rfl⟩; exact ⟨rfl, rfl⟩)
theorem cReg_c (ex : FuncId) (n : Int) {A : Option Addr} {E : Nat} {b_c : Nat} (c : VFnT) (H : Heap) (hn : in64 n) (hc_c : HC H.get b_c 0 [(iI c.params), (iI c.regs), (.slice A c.blocks.length E)]) (I : in64 c.params) (J : in64 c.regs) : C Tryd.prog 1 (KT 60 ex 37 tabC) 91 [(iI n), (.pointer (some ⟨b_c, 0, none⟩))] H fun v H' => ∃ (r : Bool), H' = H ∧ v = .bool r ∧ r = aG c.regs n := by
 refine aM Tryd.func91 rfl rfl ?_
 refine am 1 rfl ?_
 refine wR 2 [] 3 3 [] [(3, (.bool false))] trivial rfl fun _ => ?_
 refine wR 1 [(5, .o (iI c.regs))] 3 11 [] [(3, (.bool ((decide ((0 : Int) ≤ n)) && (decide (n < c.regs)))))] (vA (fun (N : (decide ((0 : Int) ≤ n)) = true) => (ql 3 1 hc_c rfl rfl)) trivial) rfl fun _ => ?_
 refine az ⟨.inr rfl, _, rfl, ((decide ((0 : Int) ≤ n)) && (decide (n < c.regs))), rfl, rfl, (by rw [Bool.eq_iff_iff, bl]; simp)⟩
theorem cReg_c_q (ex : FuncId) (n : Int) {A : Option Addr} {J : Nat} {b_c : Nat} (c : VFnT) (H : Heap) (hn : in64 n) (hc_c : HC H.get b_c 0 [(iI c.params), (iI c.regs), (.slice A c.blocks.length J)]) (E : in64 c.params) (I : in64 c.regs) : C Tryd.prog 1 (KT 60 ex 37 tabC) 91 [(iI n), (.pointer (some ⟨b_c, 0, none⟩))] H fun v H' => v = (.bool (aG c.regs n)) ∧ H' = H :=
 cq (cReg_c ex n c H hn hc_c E I) (by rintro _ _ ⟨_, rfl, rfl, rfl⟩; exact ⟨rfl, rfl⟩)
theorem cRegI_c (ex : FuncId) (n : Int) {A : Option Addr} {E : Nat} {b_c : Nat} (c : VFnT) (H : Heap) (hn : in64 n) (hc_c : HC H.get b_c 0 [(iI c.params), (iI c.regs), (.slice A c.blocks.length E)]) (I : in64 c.params) (J : in64 c.regs) : C Tryd.prog 1 (KT 60 ex 37 tabC) 130 [(iI n), (.pointer (some ⟨b_c, 0, none⟩))] H fun v H' => ∃ (r : Bool), H' = H ∧ v = .bool r ∧ r = aG c.regs n := by
 refine aM Tryd.func130 rfl rfl ?_
 refine am 1 rfl ?_
 refine wR 2 [] 3 3 [] [(3, (.bool false))] trivial rfl fun _ => ?_
 refine wR 1 [(5, .o (iI c.regs))] 3 11 [] [(3, (.bool ((decide ((0 : Int) ≤ n)) && (decide (n < c.regs)))))] (vA (fun (N : (decide ((0 : Int) ≤ n)) = true) => (ql 3 1 hc_c rfl rfl)) trivial) rfl fun _ => ?_
 refine az ⟨.inr rfl, _, rfl, ((decide ((0 : Int) ≤ n)) && (decide (n < c.regs))), rfl, rfl, (by rw [Bool.eq_iff_iff, bl]; simp)⟩
theorem fE (ex : FuncId) (n : Int) {A : Option Addr} {J : Nat} {b_c : Nat} (c : VFnT) (H : Heap) (hn : in64 n) (hc_c : HC H.get b_c 0 [(iI c.params), (iI c.regs), (.slice A c.blocks.length J)]) (E : in64 c.params) (I : in64 c.regs) : C Tryd.prog 1 (KT 60 ex 37 tabC) 130 [(iI n), (.pointer (some ⟨b_c, 0, none⟩))] H fun v H' => v = (.bool (aG c.regs n)) ∧ H' = H :=
 cq (cRegI_c ex n c H hn hc_c E I) (by rintro _ _ ⟨_, rfl, rfl, rfl⟩; exact ⟨rfl, rfl⟩)
theorem vform_c (ex : FuncId) (op : Int) {F : Fz} {H : Heap} {R : List Fp} (hs : HS (.of H []) F H [] R) (hop : in64 op) (hT : TB 37 tabC F) : C Tryd.prog 1 (KT 60 ex 37 tabC) 131 [(iI op)] H fun v H' => ∃ (r : Int) (F' : Fz), Fz.le F F' ∧ HS (.of H []) F' H' [] R ∧ v = .int .i64 r ∧ r = aC op := by
 refine aM Tryd.func131 rfl rfl ?_
 refine am 1 rfl ?_
 refine wR 3 [] 2 2 [] [(2, (iI 0))] trivial rfl fun _ => ?_
 refine wR 1 [] 5 6 [] [(6, (.bool (op == 38)))] trivial rfl fun _ => ?_
 refine au 1 2 (v := (op == 38)) rfl rfl rfl rfl (fun A => ?_) (fun A => ?_)
 ·
  have J := A
  try simp only [BS] at J
  refine wR 1 [] 2 2 [] [(2, (iI 5))] trivial rfl fun _ => ?_
  refine az ⟨.inr rfl, _, rfl, 5, _, fR, (HS.forget hs), rfl, (by unfold aC; split <;> first | rfl | omega)⟩
 have J := A
 try simp only [BS] at J
 refine aa ?_
 refine wm (iI op) rfl rfl rfl ?_
 refine aE (aB rfl rfl rfl) rfl rfl (m1.mInfo_c ex op (HS.call hs) (by omega) hT) ?_
 rintro _ H5 ⟨x5, o5, Z, O, E, rfl, T, U, rfl, rfl⟩
 replace E : HS _ _ _ [] _ := HS.back hs rfl E
 refine wRo 3 2 [] 10 11 [7] [(10, (.agg ⟨[(.string ⟨⟨(aN op).name.b⟩⟩), (iI (aN op).form), (.bool (aN op).ra), (.bool (aN op).wa), (.bool (aN op).rb), (.bool (aN op).mt), (iI (aN op).words)]⟩)), (11, (.bool (infO op)))] trivial rfl fun _ => ?_
 refine aK (bx E rfl) rfl rfl ?_
 rintro _ H8 _ ⟨N, rfl, (V : HS _ _ _ [[(N, .cells [(.string ⟨⟨[]⟩⟩), (iI 0), (.bool false), (.bool false), (.bool false), (.bool false), (iI 0)] none false)]] _), _⟩
 refine aT (aP (q := 0) V rfl rfl rfl rfl rfl rfl rfl rfl rfl) rfl ?_
 rintro _ H9 _ ⟨(I : HS _ _ _ [[(N, .cells [(.string ⟨⟨(aN op).name.b⟩⟩), (iI (aN op).form), (.bool (aN op).ra), (.bool (aN op).wa), (.bool (aN op).rb), (.bool (aN op).mt), (iI (aN op).words)] none false)]] _), _⟩
 refine wa (.bool (infO op)) rfl rfl rfl ?_
 refine aj 2 rfl ?_
 refine wR 1 [(1, .o (iI (aN op).form))] 12 13 [2] [(2, (iI (aN op).form))] (vA (ql 3 1 (HS.hc I (i := 0) rfl) rfl rfl) trivial) rfl fun _ => ?_
 refine az ⟨.inr rfl, _, rfl, (aN op).form, _, (O), (HS.forget I), rfl, (by unfold aC; split <;> first | rfl | omega)⟩
set_option maxHeartbeats 1000000 in
theorem vinstr_c (ex : FuncId) {al : Option Addr} {ar : Nat} (c : VFnT) {I : Option Addr} {J : Nat} (iv : VInT) {F : Fz} {H : Heap} {R : List Fp} (hs : HS (.of H []) F H [] R) (e4 : in64 c.params) (e5 : in64 c.regs) (e6 : SR F (.slice al c.blocks.length ar) c.blocks) (es : in64 iv.i.op) (et : in64 iv.i.a) (ez : in64 iv.i.b) (e0 : in64 iv.i.c) (e1 : in64 iv.i.n) (Z : SR F (.slice I iv.args.length J) iv.args) (hT : TB 37 tabC F) : C Tryd.prog 1 (KT 60 ex 37 tabC) 92 [(.agg ⟨[(iI c.params), (iI c.regs), (.slice al c.blocks.length ar)]⟩), (.agg ⟨[(iI iv.i.op), (iI iv.i.a), (iI iv.i.b), (iI iv.i.c), (iI iv.i.n), (.slice I iv.args.length J)]⟩)] H fun v H' => ∃ (r : Bool) (F' : Fz), Fz.le F F' ∧ HS (.of H []) F' H' [] R ∧ v = .bool r ∧ r = eP c.params c.regs iv := by
 refine aM Tryd.func92 rfl rfl ?_
 refine am 1 rfl ?_
 refine aa ?_
 refine aK (cF hs rfl rfl) rfl rfl ?_
 rintro _ H2 _ ⟨b1, rfl, (ea : HS _ _ _ [[(b1, .cells [(iI c.params), (iI c.regs), (.slice al c.blocks.length ar)] none false)]] _), _⟩
 refine aK (cF ea rfl rfl) rfl rfl ?_
 rintro _ H4 _ ⟨b3, rfl, (dd : HS _ _ _ [_, [(b3, .cells [(iI iv.i.op), (iI iv.i.a), (iI iv.i.b), (iI iv.i.c), (iI iv.i.n), (.slice I iv.args.length J)] none false)]] _), _⟩
 refine wa (.bool false) rfl rfl rfl ?_
 refine aj 2 rfl ?_
 refine aa ?_
 let dk : Value := (.agg ⟨[(iI iv.i.op), (iI iv.i.a), (iI iv.i.b), (iI iv.i.c), (iI iv.i.n)]⟩)
 refine wRo 2 0 [(1, .o dk)] 13 14 [] [(14, dk)] (vA (qn 50 0 5 (HS.hc dd (i := 1) rfl) rfl rfl rfl rfl) trivial) rfl fun _ => ?_
 refine aK (bx dd rfl) rfl rfl ?_
 rintro _ H7 _ ⟨b6, rfl, (em : HS _ _ _ [_, _, [(b6, .cells [(iI 0), (iI 0), (iI 0), (iI 0), (iI 0)] none false)]] _), _⟩
 refine aT (aP (q := 2) em rfl rfl rfl rfl rfl rfl rfl rfl rfl) rfl ?_
 rintro _ H8 _ ⟨(ag : HS _ _ _ [_, _, [(b6, .cells [(iI iv.i.op), (iI iv.i.a), (iI iv.i.b), (iI iv.i.c), (iI iv.i.n)] none false)]] _), _⟩
 refine aj 3 rfl ?_
 refine wR 1 [(1, .o (iI iv.i.op)), (2, .o (.bool (alV iv.i.op))), (6, .o (.slice I iv.args.length J)), (12, .o (iI iv.i.op)), (16, .o (.slice I iv.args.length J))] 15 35 [] [(35, (.bool (((!(alV iv.i.op)) || (decide ((6 : Int) < (iv.args.length : Int)))) || ((iv.i.op != 6) && (decide ((0 : Int) < (iv.args.length : Int)))))))] (vA (ql 3 0 (HS.hc ag (i := 2) rfl) rfl rfl) (vA (m1.jl ex iv.i.op H8) (vA (fun (E : (!(alV iv.i.op)) = false) => (ql 25 5 (HS.hc ag (i := 1) rfl) rfl rfl)) (vA (fun (E : ((!(alV iv.i.op)) || (decide ((6 : Int) < (iv.args.length : Int)))) = false) => (ql 3 0 (HS.hc ag (i := 2) rfl) rfl rfl)) (vA (fun (E : (iv.i.op != 6) = true) (U : ((!(alV iv.i.op)) || (decide ((6 : Int) < (iv.args.length : Int)))) = false) => (ql 25 5 (HS.hc ag (i := 1) rfl) rfl rfl)) trivial))))) rfl fun _ => ?_
 refine au 1 2 (v := (((!(alV iv.i.op)) || (decide ((6 : Int) < (iv.args.length : Int)))) || ((iv.i.op != 6) && (decide ((0 : Int) < (iv.args.length : Int)))))) rfl rfl rfl rfl (fun a0 => ?_) (fun a0 => ?_)
 ·
  have ax := a0
  try simp only [BS] at ax
  have hbad := ax
  refine wR 1 [] 4 4 [] [(4, (.bool false))] trivial rfl fun _ => ?_
  refine az ⟨.inr rfl, _, rfl, false, _, fR, (HS.forget ag), rfl, (by exact vin_bad hbad)⟩
 have ax := a0
 try simp only [BS] at ax
 have hal : alV iv.i.op = true := (ax).1.1
 have h6 : iv.i.op = 6 ∨ iv.args.length = 0 := by omega
 have c9 : iv.args.length ≤ 6 := by omega
 refine wR 3 [] 36 36 [6] [(6, (.func (.func 130) #[] #[(.pointer (some ⟨b1, 0, none⟩))]))] trivial rfl fun _ => ?_
 refine wR 2 [(1, .o (.slice I iv.args.length J))] 37 40 [] [(38, (.slice I iv.args.length J)), (39, (iI (iv.args.length : Int))), (40, (iI 0))] (vA (ql 25 5 (HS.hc ag (i := 1) rfl) rfl rfl) trivial) rfl fun _ => ?_
 refine ak (fun (mm : Nat) f H' => ∃ (k : Nat) (F' : Fz), Fz.le F F' ∧ HS (Base.of H []) F' H' [[(b1, .cells [(iI c.params), (iI c.regs), (.slice al c.blocks.length ar)] none false)], [(b3, .cells [(iI iv.i.op), (iI iv.i.a), (iI iv.i.b), (iI iv.i.c), (iI iv.i.n), (.slice I iv.args.length J)] none false)], [(b6, .cells [(iI iv.i.op), (iI iv.i.a), (iI iv.i.b), (iI iv.i.c), (iI iv.i.n)] none false)]] R ∧ aH f [(2, (.pointer (some ⟨b1, 0, none⟩))), (5, (.pointer (some ⟨b6, 0, none⟩))), (6, (.func (.func 130) #[] #[(.pointer (some ⟨b1, 0, none⟩))])), (38, (.slice I iv.args.length J)), (39, (iI (iv.args.length : Int))), (40, (iI (k : Int)))] ∧ mm = iv.args.length - k ∧ (k ≤ iv.args.length) ∧ (∀ j, j < k → aG c.regs (iv.args.getD j default) = true)) _ ⟨0, _, fR, ag, (agC rfl (agC rfl (agC rfl (agC rfl (agC rfl (agC rfl agN)))))), rfl, (by first | assumption | omega | (simp at *; omega)), (by exact gW)⟩ ?_
 rintro fd f1 dn ⟨k, fi, N, O, c6, rfl, hk, ha⟩ dl
 refine aq _ c6 (fun _ => ?_)
 clear c6
 replace hT := hT.mono N
 replace Z := Z.mono N
 refine am 1 rfl ?_
 refine wR 2 [] 41 41 [] [(41, (.bool (decide ((k : Int) < (iv.args.length : Int)))))] trivial rfl fun _ => ?_
 refine au 4 5 (v := (decide ((k : Int) < (iv.args.length : Int)))) rfl rfl rfl rfl (fun a1 => ?_) (fun a1 => ?_)
 ·
  have b4 := a1
  try simp only [BS] at b4
  obtain ⟨e3, c8⟩ := Sv.view (SR.sv Z O)
  have f3 := fI (c8 k)
  refine wR 2 [(1, .o (iI (iv.args.getD k 0)))] 42 43 [8] [(8, (iI (iv.args.getD k 0)))] (vA (Sv.ix (j := (k : Int)) (SR.sv Z O) (by omega) (by omega)) (vA (ql 3 0 (vI (c8 k) (by omega)) rfl rfl) trivial)) rfl fun _ => ?_
  refine wR 1 [(2, .o (.bool (aG (⟨c.params, c.regs, c.blocks⟩ : VFnT).regs (iv.args.getD k 0))))] 44 47 [] [(47, (.bool (!(aG (⟨c.params, c.regs, c.blocks⟩ : VFnT).regs (iv.args.getD k 0)))))] (vA (fE ex (iv.args.getD k 0) (⟨c.params, c.regs, c.blocks⟩ : VFnT) dn (by omega) (HS.hc O (i := 0) rfl) (by omega) (by omega)) trivial) rfl fun _ => ?_
  refine au 1 2 (v := (!(aG (⟨c.params, c.regs, c.blocks⟩ : VFnT).regs (iv.args.getD k 0)))) rfl rfl rfl rfl (fun a2 => ?_) (fun a2 => ?_)
  ·
   have b0 := a2
   try simp only [BS] at b0
   have d1 := b0
   refine wR 1 [] 4 4 [] [(4, (.bool false))] trivial rfl fun _ => ?_
   refine az ⟨.inr rfl, _, rfl, false, _, (N), (HS.forget O), rfl, (by exact vin_no (eC (by omega) d1))⟩
  have b0 := a2
  try simp only [BS] at b0
  refine wR 1 [] 40 40 [48] [(40, (iI ((k : Int) + 1)))] (vA (vi (n := (k : Int) + 1) (by omega)) trivial) rfl fun _ => ?_
  refine dl _ _ _ ?_ ⟨k + 1, _, (N), O, (agC rfl (agC rfl (agC rfl (agC rfl (agC rfl (agC rfl agN)))))), rfl, (by first | assumption | omega | (simp at *; omega)), (by exact dL ha (by assumption))⟩
  omega
 have b4 := a1
 try simp only [BS] at b4
 have hall := jm ha (by omega)
 refine wR 3 [] 1 0 [9, 10, 11, 12] [(9, (.bool false)), (10, (.bool false)), (11, (.bool false)), (12, (.bool false))] trivial rfl fun _ => ?_
 refine aa ?_
 refine wRo 2 0 [(1, .o (iI iv.i.op))] 49 50 [] [(50, (iI iv.i.op))] (vA (ql 3 0 (HS.hc O (i := 2) rfl) rfl rfl) trivial) rfl fun _ => ?_
 refine aE (aB rfl rfl rfl) rfl rfl (vform_c ex iv.i.op (HS.call O) (by omega) hT) ?_
 rintro _ aw ⟨f4, f0, T, A, rfl, rfl⟩
 replace A : HS _ _ _ [_, _, _] _ := HS.back O rfl A
 refine aj 3 rfl ?_
 refine wR 1 [] 52 53 [] [(52, (.bool (aC iv.i.op == 2)))] trivial rfl fun _ => ?_
 refine cG (fun f H' => ∃ (av : Bool) (bv : Bool) (dv : Bool) (nv : Bool), H' = aw ∧ aH f [(2, (.pointer (some ⟨b1, 0, none⟩))), (5, (.pointer (some ⟨b6, 0, none⟩))), (6, (.func (.func 130) #[] #[(.pointer (some ⟨b1, 0, none⟩))])), (9, (.bool av)), (10, (.bool bv)), (11, (.bool dv)), (12, (.bool nv))] ∧ (av = decide (aC iv.i.op ≠ 1)) ∧ (bv = decide (aC iv.i.op = 3 ∨ aC iv.i.op = 4 ∨ aC iv.i.op = 7)) ∧ (dv = decide (aC iv.i.op = 4)) ∧ (nv = decide (aC iv.i.op = 5 ∨ aC iv.i.op = 7))) (fun V => ?_) ?_
 ·
  refine au 0 1 (v := (aC iv.i.op == 2)) rfl rfl rfl rfl (fun a3 => ?_) (fun a3 => ?_)
  ·
   have b5 := a3
   try simp only [BS] at b5
   refine wR 0 [] 1 0 [9] [(9, (.bool true))] trivial rfl fun _ => ?_
   exact V _ _ ⟨true, false, false, false, rfl, (agC rfl (agC rfl (agC rfl (agC rfl (agC rfl (agC rfl (agC rfl agN))))))), (by first | (symm; apply decide_eq_true; omega) | (symm; apply decide_eq_false; have hf := aF hal; omega)), (by first | (symm; apply decide_eq_true; omega) | (symm; apply decide_eq_false; have hf := aF hal; omega)), (by first | (symm; apply decide_eq_true; omega) | (symm; apply decide_eq_false; have hf := aF hal; omega)), (by first | (symm; apply decide_eq_true; omega) | (symm; apply decide_eq_false; have hf := aF hal; omega))⟩
  have b5 := a3
  try simp only [BS] at b5
  refine wR 1 [] 54 55 [] [(54, (.bool (aC iv.i.op == 3)))] trivial rfl fun _ => ?_
  refine au 0 1 (v := (aC iv.i.op == 3)) rfl rfl rfl rfl (fun a4 => ?_) (fun a4 => ?_)
  ·
   have b7 := a4
   try simp only [BS] at b7
   refine wR 0 [] 1 0 [9, 10] [(9, (.bool true)), (10, (.bool true))] trivial rfl fun _ => ?_
   exact V _ _ ⟨true, true, false, false, rfl, (agC rfl (agC rfl (agC rfl (agC rfl (agC rfl (agC rfl (agC rfl agN))))))), (by first | (symm; apply decide_eq_true; omega) | (symm; apply decide_eq_false; have hf := aF hal; omega)), (by first | (symm; apply decide_eq_true; omega) | (symm; apply decide_eq_false; have hf := aF hal; omega)), (by first | (symm; apply decide_eq_true; omega) | (symm; apply decide_eq_false; have hf := aF hal; omega)), (by first | (symm; apply decide_eq_true; omega) | (symm; apply decide_eq_false; have hf := aF hal; omega))⟩
  have b7 := a4
  try simp only [BS] at b7
  refine wR 1 [] 56 57 [] [(56, (.bool (aC iv.i.op == 4)))] trivial rfl fun _ => ?_
  refine au 0 1 (v := (aC iv.i.op == 4)) rfl rfl rfl rfl (fun a5 => ?_) (fun a5 => ?_)
  ·
   have b9 := a5
   try simp only [BS] at b9
   refine wR 0 [] 1 0 [9, 10, 11] [(9, (.bool true)), (10, (.bool true)), (11, (.bool true))] trivial rfl fun _ => ?_
   exact V _ _ ⟨true, true, true, false, rfl, (agC rfl (agC rfl (agC rfl (agC rfl (agC rfl (agC rfl (agC rfl agN))))))), (by first | (symm; apply decide_eq_true; omega) | (symm; apply decide_eq_false; have hf := aF hal; omega)), (by first | (symm; apply decide_eq_true; omega) | (symm; apply decide_eq_false; have hf := aF hal; omega)), (by first | (symm; apply decide_eq_true; omega) | (symm; apply decide_eq_false; have hf := aF hal; omega)), (by first | (symm; apply decide_eq_true; omega) | (symm; apply decide_eq_false; have hf := aF hal; omega))⟩
  have b9 := a5
  try simp only [BS] at b9
  refine wR 1 [] 58 59 [] [(58, (.bool (aC iv.i.op == 5)))] trivial rfl fun _ => ?_
  refine au 0 1 (v := (aC iv.i.op == 5)) rfl rfl rfl rfl (fun a6 => ?_) (fun a6 => ?_)
  ·
   have cc := a6
   try simp only [BS] at cc
   refine wR 0 [] 1 0 [9, 12] [(9, (.bool true)), (12, (.bool true))] trivial rfl fun _ => ?_
   exact V _ _ ⟨true, false, false, true, rfl, (agC rfl (agC rfl (agC rfl (agC rfl (agC rfl (agC rfl (agC rfl agN))))))), (by first | (symm; apply decide_eq_true; omega) | (symm; apply decide_eq_false; have hf := aF hal; omega)), (by first | (symm; apply decide_eq_true; omega) | (symm; apply decide_eq_false; have hf := aF hal; omega)), (by first | (symm; apply decide_eq_true; omega) | (symm; apply decide_eq_false; have hf := aF hal; omega)), (by first | (symm; apply decide_eq_true; omega) | (symm; apply decide_eq_false; have hf := aF hal; omega))⟩
  have cc := a6
  try simp only [BS] at cc
  refine wR 1 [] 60 61 [] [(60, (.bool (aC iv.i.op == 7)))] trivial rfl fun _ => ?_
  refine au 0 0 (v := (aC iv.i.op == 7)) rfl rfl rfl rfl (fun a7 => ?_) (fun a7 => ?_)
  ·
   have ch := a7
   try simp only [BS] at ch
   refine wR 0 [] 1 0 [9, 10, 12] [(9, (.bool true)), (10, (.bool true)), (12, (.bool true))] trivial rfl fun _ => ?_
   exact V _ _ ⟨true, true, false, true, rfl, (agC rfl (agC rfl (agC rfl (agC rfl (agC rfl (agC rfl (agC rfl agN))))))), (by first | (symm; apply decide_eq_true; omega) | (symm; apply decide_eq_false; have hf := aF hal; omega)), (by first | (symm; apply decide_eq_true; omega) | (symm; apply decide_eq_false; have hf := aF hal; omega)), (by first | (symm; apply decide_eq_true; omega) | (symm; apply decide_eq_false; have hf := aF hal; omega)), (by first | (symm; apply decide_eq_true; omega) | (symm; apply decide_eq_false; have hf := aF hal; omega))⟩
  have ch := a7
  try simp only [BS] at ch
  exact V _ _ ⟨false, false, false, false, rfl, (agC rfl (agC rfl (agC rfl (agC rfl (agC rfl (agC rfl (agC rfl agN))))))), (by first | (symm; apply decide_eq_true; omega) | (symm; apply decide_eq_false; have hf := aF hal; omega)), (by first | (symm; apply decide_eq_true; omega) | (symm; apply decide_eq_false; have hf := aF hal; omega)), (by first | (symm; apply decide_eq_true; omega) | (symm; apply decide_eq_false; have hf := aF hal; omega)), (by first | (symm; apply decide_eq_true; omega) | (symm; apply decide_eq_false; have hf := aF hal; omega))⟩
 skip
 rintro f2 aw ⟨av, bv, dv, nv, rfl, c7, hav, hbv, hdv, hnv⟩
 refine aq _ c7 (fun _ => ?_)
 clear c7
 refine am 4 rfl ?_
 refine wR 1 [(4, .o (iI iv.i.a)), (5, .o (.bool (aG (⟨c.params, c.regs, c.blocks⟩ : VFnT).regs iv.i.a))), (13, .o (iI iv.i.b)), (14, .o (.bool (aG (⟨c.params, c.regs, c.blocks⟩ : VFnT).regs iv.i.b))), (23, .o (iI iv.i.c)), (24, .o (.bool (aG (⟨c.params, c.regs, c.blocks⟩ : VFnT).regs iv.i.c))), (33, .o (iI iv.i.a)), (42, .o (iI iv.i.b)), (51, .o (iI iv.i.c)), (60, .o (iI iv.i.n))] 62 125 [] [(125, (.bool (((((((av && (!(aG (⟨c.params, c.regs, c.blocks⟩ : VFnT).regs iv.i.a))) || (bv && (!(aG (⟨c.params, c.regs, c.blocks⟩ : VFnT).regs iv.i.b)))) || (dv && (!(aG (⟨c.params, c.regs, c.blocks⟩ : VFnT).regs iv.i.c)))) || ((!av) && (iv.i.a != 0))) || ((!bv) && (iv.i.b != 0))) || ((!dv) && (iv.i.c != 0))) || ((!nv) && (iv.i.n != 0)))))] (vA (fun (E : av = true) => (ql 3 1 (HS.hc A (i := 2) rfl) rfl rfl)) (vA (fun (E : av = true) => (fE ex iv.i.a (⟨c.params, c.regs, c.blocks⟩ : VFnT) aw (by (try simp only [BS] at E); omega) (HS.hc A (i := 0) rfl) (by (try simp only [BS] at E); omega) (by (try simp only [BS] at E); omega))) (vA (fun (E : bv = true) (U : (av && (!(aG (⟨c.params, c.regs, c.blocks⟩ : VFnT).regs iv.i.a))) = false) => (ql 3 2 (HS.hc A (i := 2) rfl) rfl rfl)) (vA (fun (E : bv = true) (U : (av && (!(aG (⟨c.params, c.regs, c.blocks⟩ : VFnT).regs iv.i.a))) = false) => (fE ex iv.i.b (⟨c.params, c.regs, c.blocks⟩ : VFnT) aw (by (try simp only [BS] at E U); omega) (HS.hc A (i := 0) rfl) (by (try simp only [BS] at E U); omega) (by (try simp only [BS] at E U); omega))) (vA (fun (E : dv = true) (U : ((av && (!(aG (⟨c.params, c.regs, c.blocks⟩ : VFnT).regs iv.i.a))) || (bv && (!(aG (⟨c.params, c.regs, c.blocks⟩ : VFnT).regs iv.i.b)))) = false) => (ql 3 3 (HS.hc A (i := 2) rfl) rfl rfl)) (vA (fun (E : dv = true) (U : ((av && (!(aG (⟨c.params, c.regs, c.blocks⟩ : VFnT).regs iv.i.a))) || (bv && (!(aG (⟨c.params, c.regs, c.blocks⟩ : VFnT).regs iv.i.b)))) = false) => (fE ex iv.i.c (⟨c.params, c.regs, c.blocks⟩ : VFnT) aw (by (try simp only [BS] at E U); omega) (HS.hc A (i := 0) rfl) (by (try simp only [BS] at E U); omega) (by (try simp only [BS] at E U); omega))) (vA (fun (E : (!av) = true) (U : (((av && (!(aG (⟨c.params, c.regs, c.blocks⟩ : VFnT).regs iv.i.a))) || (bv && (!(aG (⟨c.params, c.regs, c.blocks⟩ : VFnT).regs iv.i.b)))) || (dv && (!(aG (⟨c.params, c.regs, c.blocks⟩ : VFnT).regs iv.i.c)))) = false) => (ql 3 1 (HS.hc A (i := 2) rfl) rfl rfl)) (vA (fun (E : (!bv) = true) (U : ((((av && (!(aG (⟨c.params, c.regs, c.blocks⟩ : VFnT).regs iv.i.a))) || (bv && (!(aG (⟨c.params, c.regs, c.blocks⟩ : VFnT).regs iv.i.b)))) || (dv && (!(aG (⟨c.params, c.regs, c.blocks⟩ : VFnT).regs iv.i.c)))) || ((!av) && (iv.i.a != 0))) = false) => (ql 3 2 (HS.hc A (i := 2) rfl) rfl rfl)) (vA (fun (E : (!dv) = true) (U : (((((av && (!(aG (⟨c.params, c.regs, c.blocks⟩ : VFnT).regs iv.i.a))) || (bv && (!(aG (⟨c.params, c.regs, c.blocks⟩ : VFnT).regs iv.i.b)))) || (dv && (!(aG (⟨c.params, c.regs, c.blocks⟩ : VFnT).regs iv.i.c)))) || ((!av) && (iv.i.a != 0))) || ((!bv) && (iv.i.b != 0))) = false) => (ql 3 3 (HS.hc A (i := 2) rfl) rfl rfl)) (vA (fun (E : (!nv) = true) (U : ((((((av && (!(aG (⟨c.params, c.regs, c.blocks⟩ : VFnT).regs iv.i.a))) || (bv && (!(aG (⟨c.params, c.regs, c.blocks⟩ : VFnT).regs iv.i.b)))) || (dv && (!(aG (⟨c.params, c.regs, c.blocks⟩ : VFnT).regs iv.i.c)))) || ((!av) && (iv.i.a != 0))) || ((!bv) && (iv.i.b != 0))) || ((!dv) && (iv.i.c != 0))) = false) => (ql 2 4 (HS.hc A (i := 2) rfl) rfl rfl)) trivial)))))))))) rfl fun _ => ?_
 refine au 1 3 (v := (((((((av && (!(aG (⟨c.params, c.regs, c.blocks⟩ : VFnT).regs iv.i.a))) || (bv && (!(aG (⟨c.params, c.regs, c.blocks⟩ : VFnT).regs iv.i.b)))) || (dv && (!(aG (⟨c.params, c.regs, c.blocks⟩ : VFnT).regs iv.i.c)))) || ((!av) && (iv.i.a != 0))) || ((!bv) && (iv.i.b != 0))) || ((!dv) && (iv.i.c != 0))) || ((!nv) && (iv.i.n != 0)))) rfl rfl rfl rfl (fun ad => ?_) (fun ad => ?_)
 ·
  have ci := ad
  try simp only [BS] at ci
  have d2 := ad
  refine wR 1 [] 4 4 [] [(4, (.bool false))] trivial rfl fun _ => ?_
  refine az ⟨.inr rfl, _, rfl, false, _, (fT (N) T), (HS.forget A), rfl, (by exact vin_bad3v hal h6 c9 hall hav hbv hdv hnv d2)⟩
 have ci := ad
 try simp only [BS] at ci
 have hgood := vin_good3v (params := c.params) hal h6 c9 hall hav hbv hdv hnv ad
 refine wR 3 [(1, .o (iI iv.i.op))] 126 127 [] [(127, (iI iv.i.op))] (vA (ql 3 0 (HS.hc A (i := 2) rfl) rfl rfl) trivial) rfl fun _ => ?_
 refine wR 1 [] 128 129 [] [(128, (.bool (iv.i.op == 33)))] trivial rfl fun _ => ?_
 refine au 1 1 (v := (iv.i.op == 33)) rfl rfl rfl rfl (fun a8 => ?_) (fun a8 => ?_)
 ·
  have co := a8
  try simp only [BS] at co
  refine wR 1 [(1, .o (iI iv.i.n)), (5, .o (iI iv.i.n))] 130 137 [4] [(4, (.bool ((decide ((-4194304 : Int) ≤ iv.i.n)) && (decide (iv.i.n < 4194304)))))] (vA (ql 2 4 (HS.hc A (i := 2) rfl) rfl rfl) (vA (fun (E : (decide ((-4194304 : Int) ≤ iv.i.n)) = true) => (ql 2 4 (HS.hc A (i := 2) rfl) rfl rfl)) trivial)) rfl fun _ => ?_
  refine az ⟨.inr rfl, _, rfl, ((decide ((-4194304 : Int) ≤ iv.i.n)) && (decide (iv.i.n < 4194304))), _, (fT (N) T), (HS.forget A), rfl, (by rw [hgood.1]; first | exact (fW hal hgood.2 (by omega) (by omega) (by omega) (by omega)).symm | (unfold jB; (repeat' split) <;> first | omega | rfl | (rw [Bool.eq_iff_iff] <;> simp)))⟩
 have co := a8
 try simp only [BS] at co
 refine wR 1 [] 138 139 [] [(138, (.bool (iv.i.op == 6)))] trivial rfl fun _ => ?_
 refine au 1 2 (v := (iv.i.op == 6)) rfl rfl rfl rfl (fun a9 => ?_) (fun a9 => ?_)
 ·
  have c0 := a9
  try simp only [BS] at c0
  refine wR 1 [(1, .o (iI iv.i.n)), (5, .o (iI iv.i.n))] 140 147 [4] [(4, (.bool ((decide ((0 : Int) ≤ iv.i.n)) && (decide (iv.i.n < 8)))))] (vA (ql 2 4 (HS.hc A (i := 2) rfl) rfl rfl) (vA (fun (E : (decide ((0 : Int) ≤ iv.i.n)) = true) => (ql 2 4 (HS.hc A (i := 2) rfl) rfl rfl)) trivial)) rfl fun _ => ?_
  refine az ⟨.inr rfl, _, rfl, ((decide ((0 : Int) ≤ iv.i.n)) && (decide (iv.i.n < 8))), _, (fT (N) T), (HS.forget A), rfl, (by rw [hgood.1]; first | exact (fW hal hgood.2 (by omega) (by omega) (by omega) (by omega)).symm | (unfold jB; (repeat' split) <;> first | omega | rfl | (rw [Bool.eq_iff_iff] <;> simp)))⟩
 have c0 := a9
 try simp only [BS] at c0
 refine wR 1 [] 148 149 [] [(148, (.bool (iv.i.op == 34)))] trivial rfl fun _ => ?_
 refine au 1 0 (v := (iv.i.op == 34)) rfl rfl rfl rfl (fun an => ?_) (fun an => ?_)
 ·
  have c3 := an
  try simp only [BS] at c3
  refine bC 1 (v := (iv.i.op == 34)) rfl an rfl rfl ?_
  refine wR 1 [(1, .o (iI iv.i.n)), (5, .o (iI iv.i.n))] 151 158 [4] [(4, (.bool ((decide ((0 : Int) ≤ iv.i.n)) && (decide (iv.i.n < 4)))))] (vA (ql 2 4 (HS.hc A (i := 2) rfl) rfl rfl) (vA (fun (E : (decide ((0 : Int) ≤ iv.i.n)) = true) => (ql 2 4 (HS.hc A (i := 2) rfl) rfl rfl)) trivial)) rfl fun _ => ?_
  refine az ⟨.inr rfl, _, rfl, ((decide ((0 : Int) ≤ iv.i.n)) && (decide (iv.i.n < 4))), _, (fT (N) T), (HS.forget A), rfl, (by rw [hgood.1]; first | exact (fW hal hgood.2 (by omega) (by omega) (by omega) (by omega)).symm | (unfold jB; (repeat' split) <;> first | omega | rfl | (rw [Bool.eq_iff_iff] <;> simp)))⟩
 have c3 := an
 try simp only [BS] at c3
 refine wR 1 [] 148 150 [] [(148, (.bool (iv.i.op == 35)))] trivial rfl fun _ => ?_
 refine au 1 1 (v := (iv.i.op == 35)) rfl rfl rfl rfl (fun bb => ?_) (fun bb => ?_)
 ·
  have c4 := bb
  try simp only [BS] at c4
  refine wR 1 [(1, .o (iI iv.i.n)), (5, .o (iI iv.i.n))] 151 158 [4] [(4, (.bool ((decide ((0 : Int) ≤ iv.i.n)) && (decide (iv.i.n < 4)))))] (vA (ql 2 4 (HS.hc A (i := 2) rfl) rfl rfl) (vA (fun (E : (decide ((0 : Int) ≤ iv.i.n)) = true) => (ql 2 4 (HS.hc A (i := 2) rfl) rfl rfl)) trivial)) rfl fun _ => ?_
  refine az ⟨.inr rfl, _, rfl, ((decide ((0 : Int) ≤ iv.i.n)) && (decide (iv.i.n < 4))), _, (fT (N) T), (HS.forget A), rfl, (by rw [hgood.1]; first | exact (fW hal hgood.2 (by omega) (by omega) (by omega) (by omega)).symm | (unfold jB; (repeat' split) <;> first | omega | rfl | (rw [Bool.eq_iff_iff] <;> simp)))⟩
 have c4 := bb
 try simp only [BS] at c4
 refine wR 1 [] 159 160 [] [(159, (.bool (iv.i.op == 38)))] trivial rfl fun _ => ?_
 refine au 1 3 (v := (iv.i.op == 38)) rfl rfl rfl rfl (fun bk => ?_) (fun bk => ?_)
 ·
  have c5 := bk
  try simp only [BS] at c5
  refine wR 1 [(1, .o (iI iv.i.n)), (5, .o (iI iv.i.n)), (7, .o (iI c.params))] 161 170 [4] [(4, (.bool ((decide ((0 : Int) ≤ iv.i.n)) && (decide (iv.i.n < c.params)))))] (vA (ql 2 4 (HS.hc A (i := 2) rfl) rfl rfl) (vA (fun (E : (decide ((0 : Int) ≤ iv.i.n)) = true) => (ql 2 4 (HS.hc A (i := 2) rfl) rfl rfl)) (vA (fun (E : (decide ((0 : Int) ≤ iv.i.n)) = true) => (ql 3 0 (HS.hc A (i := 0) rfl) rfl rfl)) trivial))) rfl fun _ => ?_
  refine az ⟨.inr rfl, _, rfl, ((decide ((0 : Int) ≤ iv.i.n)) && (decide (iv.i.n < c.params))), _, (fT (N) T), (HS.forget A), rfl, (by rw [hgood.1]; first | exact (fW hal hgood.2 (by omega) (by omega) (by omega) (by omega)).symm | (unfold jB; (repeat' split) <;> first | omega | rfl | (rw [Bool.eq_iff_iff] <;> simp)))⟩
 have c5 := bk
 try simp only [BS] at c5
 refine wR 1 [] 4 4 [] [(4, (.bool true))] trivial rfl fun _ => ?_
 refine az ⟨.inr rfl, _, rfl, true, _, (fT (N) T), (HS.forget A), rfl, (by rw [hgood.1]; first | exact (fW hal hgood.2 (by omega) (by omega) (by omega) (by omega)).symm | (unfold jB; (repeat' split) <;> first | omega | rfl | (rw [Bool.eq_iff_iff] <;> simp)))⟩
set_option maxHeartbeats 1000000 in
theorem gV (ex : FuncId) {J : Option Addr} {N : Nat} (c : VFnT) {F : Fz} {H : Heap} {R : List Fp} (hs : HS (.of H []) F H [] R) (e5 : in64 c.params) (e6 : in64 c.regs) (V : SR F (.slice J c.blocks.length N) c.blocks) (hT : TB 37 tabC F) (hv : ∀ j, (c.blocks.getD j default).ins.length ≤ 9223372036854775807) : C Tryd.prog 1 (KT 60 ex 37 tabC) 49 [(.agg ⟨[(iI c.params), (iI c.regs), (.slice J c.blocks.length N)]⟩)] H fun v H' => ∃ (r : Bool) (F' : Fz), Fz.le F F' ∧ HS (.of H []) F' H' [] R ∧ v = .bool r ∧ r = ef c := by
 refine aM Tryd.func49 rfl rfl ?_
 refine am 1 rfl ?_
 refine aa ?_
 refine aK (cF hs rfl rfl) rfl rfl ?_
 rintro _ H2 _ ⟨b1, rfl, (Z : HS _ _ _ [[(b1, .cells [(iI c.params), (iI c.regs), (.slice J c.blocks.length N)] none false)]] _), _⟩
 refine wa (.bool false) rfl rfl rfl ?_
 refine aj 3 rfl ?_
 refine wR 1 [(1, .o (iI c.params)), (5, .o (iI c.params)), (10, .o (iI c.regs)), (15, .o (iI c.regs)), (20, .o (.slice J c.blocks.length N)), (26, .o (.slice J c.blocks.length N))] 10 39 [] [(39, (.bool ((((((decide (c.params < 0)) || (decide ((6 : Int) < c.params))) || (decide (c.regs < 0))) || (decide ((3000 : Int) < c.regs))) || (decide ((c.blocks.length : Int) < 1))) || (decide ((1000 : Int) < (c.blocks.length : Int))))))] (vA (ql 3 0 (HS.hc Z (i := 0) rfl) rfl rfl) (vA (fun (O : (decide (c.params < 0)) = false) => (ql 3 0 (HS.hc Z (i := 0) rfl) rfl rfl)) (vA (fun (O : ((decide (c.params < 0)) || (decide ((6 : Int) < c.params))) = false) => (ql 3 1 (HS.hc Z (i := 0) rfl) rfl rfl)) (vA (fun (O : (((decide (c.params < 0)) || (decide ((6 : Int) < c.params))) || (decide (c.regs < 0))) = false) => (ql 3 1 (HS.hc Z (i := 0) rfl) rfl rfl)) (vA (fun (O : ((((decide (c.params < 0)) || (decide ((6 : Int) < c.params))) || (decide (c.regs < 0))) || (decide ((3000 : Int) < c.regs))) = false) => (ql 22 2 (HS.hc Z (i := 0) rfl) rfl rfl)) (vA (fun (O : (((((decide (c.params < 0)) || (decide ((6 : Int) < c.params))) || (decide (c.regs < 0))) || (decide ((3000 : Int) < c.regs))) || (decide ((c.blocks.length : Int) < 1))) = false) => (ql 22 2 (HS.hc Z (i := 0) rfl) rfl rfl)) trivial)))))) rfl fun _ => ?_
 refine au 1 2 (v := ((((((decide (c.params < 0)) || (decide ((6 : Int) < c.params))) || (decide (c.regs < 0))) || (decide ((3000 : Int) < c.regs))) || (decide ((c.blocks.length : Int) < 1))) || (decide ((1000 : Int) < (c.blocks.length : Int))))) rfl rfl rfl rfl (fun ch => ?_) (fun ch => ?_)
 ·
  have c4 := ch
  try simp only [BS] at c4
  refine wR 1 [] 2 2 [] [(2, (.bool false))] trivial rfl fun _ => ?_
  refine az ⟨.inr rfl, _, rfl, false, _, fR, (HS.forget Z), rfl, (by exact val_lim (by omega))⟩
 have c4 := ch
 try simp only [BS] at c4
 have hlim : 0 ≤ c.params ∧ c.params ≤ 6 ∧ 0 ≤ c.regs ∧ c.regs ≤ 3000 ∧ 1 ≤ c.blocks.length ∧ c.blocks.length ≤ 1000 := by omega
 refine wR 2 [] 40 40 [3] [(3, (.func (.func 90) #[] #[(.pointer (some ⟨b1, 0, none⟩))]))] trivial rfl fun _ => ?_
 refine wR 3 [] 41 41 [4] [(4, (.func (.func 91) #[] #[(.pointer (some ⟨b1, 0, none⟩))]))] trivial rfl fun _ => ?_
 refine wR 2 [(1, .o (.slice J c.blocks.length N))] 42 45 [] [(43, (.slice J c.blocks.length N)), (44, (iI (c.blocks.length : Int))), (45, (iI 0))] (vA (ql 22 2 (HS.hc Z (i := 0) rfl) rfl rfl) trivial) rfl fun _ => ?_
 let dl : Fp := [(b1, .cells [(iI c.params), (iI c.regs), (.slice J c.blocks.length N)] none false)]
 refine ak (fun (mm : Nat) f H' => ∃ (k : Nat) (F' : Fz), Fz.le F F' ∧ HS (Base.of H []) F' H' [dl] R ∧ aH f [(1, (.pointer (some ⟨b1, 0, none⟩))), (3, (.func (.func 90) #[] #[(.pointer (some ⟨b1, 0, none⟩))])), (4, (.func (.func 91) #[] #[(.pointer (some ⟨b1, 0, none⟩))])), (43, (.slice J c.blocks.length N)), (44, (iI (c.blocks.length : Int))), (45, (iI (k : Int)))] ∧ mm = c.blocks.length - k ∧ (k ≤ c.blocks.length) ∧ (∀ j, j < k → blkV c.params c.regs (c.blocks.length : Int) (c.blocks.getD j default) = true)) _ ⟨0, _, fR, Z, (agC rfl (agC rfl (agC rfl (agC rfl (agC rfl (agC rfl agN)))))), rfl, (by first | assumption | omega | (simp at *; omega)), (by exact gW)⟩ ?_
 rintro f8 f9 H9 ⟨k, F9, T, b3, dk, rfl, hk, ha⟩ b4
 refine aq _ dk (fun _ => ?_)
 clear dk
 replace hT := hT.mono T
 replace V := V.mono T
 have hvk := hv k
 refine am 1 rfl ?_
 refine wR 2 [] 46 46 [] [(46, (.bool (decide ((k : Int) < (c.blocks.length : Int)))))] trivial rfl fun _ => ?_
 refine au 4 5 (v := (decide ((k : Int) < (c.blocks.length : Int)))) rfl rfl rfl rfl (fun a1 => ?_) (fun a1 => ?_)
 ·
  have b6 := a1
  try simp only [BS] at b6
  refine aa ?_
  obtain ⟨I, c6⟩ := Sv.view (SR.sv V b3)
  obtain ⟨d2, ea, em, es, ad⟩ := BlkT.fx (c6 k)
  let c8 : Value := (.agg ⟨[(.slice (cA (I k) 0) (c.blocks.getD k default).ins.length (cK (I k) 0)), (iI (c.blocks.getD k default).fin), (iI (c.blocks.getD k default).reg), (iI (c.blocks.getD k default).tgt), (iI (c.blocks.getD k default).els)]⟩)
  refine wRo 2 0 [(1, .o c8)] 47 48 [] [(48, c8)] (vA (Sv.ix (j := (k : Int)) (SR.sv V b3) (by omega) (by omega)) (vA (qn 48 0 5 (BlkT.vw (c6 k) (by omega)) rfl rfl rfl rfl) trivial)) rfl fun _ => ?_
  refine aK (bx b3 rfl) rfl rfl ?_
  rintro _ f1 _ ⟨b0, rfl, (dt : HS _ _ _ [_, [(b0, .cells [(.slice none 0 0), (iI 0), (iI 0), (iI 0), (iI 0)] none false)]] _), _⟩
  refine aT (aP (q := 1) dt rfl rfl rfl rfl rfl rfl rfl rfl rfl) rfl ?_
  rintro _ f2 _ ⟨(c5 : HS _ _ _ [_, [(b0, .cells [(.slice (cA (I k) 0) (c.blocks.getD k default).ins.length (cK (I k) 0)), (iI (c.blocks.getD k default).fin), (iI (c.blocks.getD k default).reg), (iI (c.blocks.getD k default).tgt), (iI (c.blocks.getD k default).els)] none false)]] _), _⟩
  refine aj 3 rfl ?_
  refine wR 2 [(1, .o (.slice (cA (I k) 0) (c.blocks.getD k default).ins.length (cK (I k) 0)))] 49 52 [] [(50, (.slice (cA (I k) 0) (c.blocks.getD k default).ins.length (cK (I k) 0))), (51, (iI ((c.blocks.getD k default).ins.length : Int))), (52, (iI 0))] (vA (ql 46 0 (HS.hc c5 (i := 1) rfl) rfl rfl) trivial) rfl fun _ => ?_
  refine ak (fun (mm : Nat) f H' => ∃ (i : Nat) (F' : Fz), Fz.le F9 F' ∧ HS (Base.of H []) F' H' [dl, [(b0, .cells [(.slice (cA (I k) 0) (c.blocks.getD k default).ins.length (cK (I k) 0)), (iI (c.blocks.getD k default).fin), (iI (c.blocks.getD k default).reg), (iI (c.blocks.getD k default).tgt), (iI (c.blocks.getD k default).els)] none false)]] R ∧ aH f [(1, (.pointer (some ⟨b1, 0, none⟩))), (3, (.func (.func 90) #[] #[(.pointer (some ⟨b1, 0, none⟩))])), (4, (.func (.func 91) #[] #[(.pointer (some ⟨b1, 0, none⟩))])), (6, (.pointer (some ⟨b0, 0, none⟩))), (43, (.slice J c.blocks.length N)), (44, (iI (c.blocks.length : Int))), (45, (iI (k : Int))), (46, (.bool (decide ((k : Int) < (c.blocks.length : Int))))), (48, c8), (50, (.slice (cA (I k) 0) (c.blocks.getD k default).ins.length (cK (I k) 0))), (51, (iI ((c.blocks.getD k default).ins.length : Int))), (52, (iI (i : Int)))] ∧ mm = (c.blocks.getD k default).ins.length - i ∧ (i ≤ (c.blocks.getD k default).ins.length) ∧ (∀ j, j < i → eP c.params c.regs ((c.blocks.getD k default).ins.getD j default) = true)) _ ⟨0, _, fR, c5, (agC rfl (agC rfl (agC rfl (agC rfl (agC rfl (agC rfl (agC rfl (agC rfl (agC rfl (agC rfl (agC rfl (agC rfl agN)))))))))))), rfl, (by first | assumption | omega | (simp at *; omega)), (by exact gW)⟩ ?_
  rintro fd f6 av ⟨i, fi, E, A, c3, rfl, hi, hb⟩ d1
  refine aq _ c3 (fun _ => ?_)
  clear c3
  replace hT := hT.mono E
  replace V := V.mono E
  replace ad := ad.mono E
  refine am 1 rfl ?_
  refine wR 2 [] 53 53 [] [(53, (.bool (decide ((i : Int) < ((c.blocks.getD k default).ins.length : Int)))))] trivial rfl fun _ => ?_
  refine au 4 5 (v := (decide ((i : Int) < ((c.blocks.getD k default).ins.length : Int)))) rfl rfl rfl rfl (fun a2 => ?_) (fun a2 => ?_)
  ·
   have b7 := a2
   try simp only [BS] at b7
   refine aa ?_
   obtain ⟨al, c7⟩ := Sv.view (SR.sv ad A)
   obtain ⟨et, ez, e0, e1, e2, c9⟩ := VInT.fx (c7 i)
   let b5 : Value := (.agg ⟨[(iI ((c.blocks.getD k default).ins.getD i default).i.op), (iI ((c.blocks.getD k default).ins.getD i default).i.a), (iI ((c.blocks.getD k default).ins.getD i default).i.b), (iI ((c.blocks.getD k default).ins.getD i default).i.c), (iI ((c.blocks.getD k default).ins.getD i default).i.n), (.slice (cA (al i) 5) ((c.blocks.getD k default).ins.getD i default).args.length (cK (al i) 5))]⟩)
   refine wRo 2 0 [(1, .o b5)] 54 55 [] [(55, b5)] (vA (Sv.ix (j := (i : Int)) (SR.sv ad A) (by omega) (by omega)) (vA (qn 52 0 6 (VInT.vw (c7 i) (by omega)) rfl rfl rfl rfl) trivial)) rfl fun _ => ?_
   refine aK (bx A rfl) rfl rfl ?_
   rintro _ f3 _ ⟨dd, rfl, (dv : HS _ _ _ [_, _, [(dd, .cells [(iI 0), (iI 0), (iI 0), (iI 0), (iI 0), (.slice none 0 0)] none false)]] _), _⟩
   refine aT (aP (q := 2) dv rfl rfl rfl rfl rfl rfl rfl rfl rfl) rfl ?_
   rintro _ f4 _ ⟨(an : HS _ _ _ [_, _, [(dd, .cells [(iI ((c.blocks.getD k default).ins.getD i default).i.op), (iI ((c.blocks.getD k default).ins.getD i default).i.a), (iI ((c.blocks.getD k default).ins.getD i default).i.b), (iI ((c.blocks.getD k default).ins.getD i default).i.c), (iI ((c.blocks.getD k default).ins.getD i default).i.n), (.slice (cA (al i) 5) ((c.blocks.getD k default).ins.getD i default).args.length (cK (al i) 5))] none false)]] _), _⟩
   refine aj 2 rfl ?_
   refine aa ?_
   let dn : Value := (.agg ⟨[(iI c.params), (iI c.regs), (.slice J c.blocks.length N)]⟩)
   refine wRo 2 0 [(0, .o dn), (1, .o b5)] 56 57 [] [(56, dn), (57, b5)] (vA (qn 24 0 3 (HS.hc an (i := 0) rfl) rfl rfl rfl rfl) (vA (qn 52 0 6 (HS.hc an (i := 2) rfl) rfl rfl rfl rfl) trivial)) rfl fun _ => ?_
   refine aE (aB rfl rfl rfl) rfl rfl (vinstr_c ex (⟨c.params, c.regs, c.blocks⟩ : VFnT) (⟨(⟨((c.blocks.getD k default).ins.getD i default).i.op, ((c.blocks.getD k default).ins.getD i default).i.a, ((c.blocks.getD k default).ins.getD i default).i.b, ((c.blocks.getD k default).ins.getD i default).i.c, ((c.blocks.getD k default).ins.getD i default).i.n⟩ : InsT), ((c.blocks.getD k default).ins.getD i default).args⟩ : VInT) (HS.call an) (by omega) (by omega) V (by omega) (by omega) (by omega) (by omega) (by omega) c9 hT) ?_
   rintro _ f5 ⟨go, f0, c0, ar, rfl, rfl⟩
   replace ar : HS _ _ _ [_, _, _] _ := HS.back an rfl ar
   refine wRo 1 3 [] 59 59 [] [(59, (.bool (!(eP (⟨c.params, c.regs, c.blocks⟩ : VFnT).params (⟨c.params, c.regs, c.blocks⟩ : VFnT).regs (⟨(⟨((c.blocks.getD k default).ins.getD i default).i.op, ((c.blocks.getD k default).ins.getD i default).i.a, ((c.blocks.getD k default).ins.getD i default).i.b, ((c.blocks.getD k default).ins.getD i default).i.c, ((c.blocks.getD k default).ins.getD i default).i.n⟩ : InsT), ((c.blocks.getD k default).ins.getD i default).args⟩ : VInT)))))] trivial rfl fun _ => ?_
   refine aj 1 rfl ?_
   refine au 1 2 (v := (!(eP (⟨c.params, c.regs, c.blocks⟩ : VFnT).params (⟨c.params, c.regs, c.blocks⟩ : VFnT).regs (⟨(⟨((c.blocks.getD k default).ins.getD i default).i.op, ((c.blocks.getD k default).ins.getD i default).i.a, ((c.blocks.getD k default).ins.getD i default).i.b, ((c.blocks.getD k default).ins.getD i default).i.c, ((c.blocks.getD k default).ins.getD i default).i.n⟩ : InsT), ((c.blocks.getD k default).ins.getD i default).args⟩ : VInT)))) rfl rfl rfl rfl (fun a3 => ?_) (fun a3 => ?_)
   ·
    have b2 := a3
    try simp only [BS] at b2
    have h3 := b2
    refine wR 1 [] 2 2 [] [(2, (.bool false))] trivial rfl fun _ => ?_
    refine az ⟨.inr rfl, _, rfl, false, _, (fT (fT (T) E) c0), (HS.forget ar), rfl, (by exact iL (eC (by omega) (blk_no (eC (by omega) h3))))⟩
   have b2 := a3
   try simp only [BS] at b2
   refine wR 1 [] 52 52 [60] [(52, (iI ((i : Int) + 1)))] (vA (vi (n := (i : Int) + 1) (by omega)) trivial) rfl fun _ => ?_
   refine d1 _ _ _ ?_ ⟨i + 1, _, (fT (E) c0), (HS.sub ar (List.sublist_append_left _ _)), (agC rfl (agC rfl (agC rfl (agC rfl (agC rfl (agC rfl (agC rfl (agC rfl (agC rfl (agC rfl (agC rfl (agC rfl agN)))))))))))), rfl, (by first | assumption | omega | (simp at *; omega)), (by exact dL hb (by assumption))⟩
   omega
  have b7 := a2
  try simp only [BS] at b7
  have hal := jm hb (by omega)
  refine wR 3 [] 1 0 [9] [(9, (.bool false))] trivial rfl fun _ => ?_
  refine wR 3 [(1, .o (iI (c.blocks.getD k default).fin))] 61 62 [] [(62, (iI (c.blocks.getD k default).fin))] (vA (ql 3 1 (HS.hc A (i := 1) rfl) rfl rfl) trivial) rfl fun _ => ?_
  refine wR 1 [] 63 64 [] [(63, (.bool ((c.blocks.getD k default).fin == 1)))] trivial rfl fun _ => ?_
  refine au 0 1 (v := ((c.blocks.getD k default).fin == 1)) rfl rfl rfl rfl (fun a4 => ?_) (fun a4 => ?_)
  ·
   have b9 := a4
   try simp only [BS] at b9
   refine wR 3 [(2, .o (iI (c.blocks.getD k default).tgt)), (3, .o (.bool (aG ((⟨c.params, c.regs, c.blocks⟩ : VFnT).blocks.length : Int) (c.blocks.getD k default).tgt))), (6, .o (iI (c.blocks.getD k default).reg)), (11, .o (iI (c.blocks.getD k default).els))] 65 78 [9] [(9, (.bool ((aG ((⟨c.params, c.regs, c.blocks⟩ : VFnT).blocks.length : Int) (c.blocks.getD k default).tgt && ((c.blocks.getD k default).reg == 0)) && ((c.blocks.getD k default).els == 0))))] (vA (ql 3 3 (HS.hc A (i := 1) rfl) rfl rfl) (vA (jJ ex (c.blocks.getD k default).tgt (⟨c.params, c.regs, c.blocks⟩ : VFnT) av (by omega) (HS.hc A (i := 0) rfl) (by omega) (by omega)) (vA (fun (O : (aG ((⟨c.params, c.regs, c.blocks⟩ : VFnT).blocks.length : Int) (c.blocks.getD k default).tgt) = true) => (ql 3 2 (HS.hc A (i := 1) rfl) rfl rfl)) (vA (fun (O : (aG ((⟨c.params, c.regs, c.blocks⟩ : VFnT).blocks.length : Int) (c.blocks.getD k default).tgt && ((c.blocks.getD k default).reg == 0)) = true) => (ql 3 4 (HS.hc A (i := 1) rfl) rfl rfl)) trivial)))) rfl fun _ => ?_
   refine wR 1 [] 133 134 [] [(134, (.bool (!((aG ((⟨c.params, c.regs, c.blocks⟩ : VFnT).blocks.length : Int) (c.blocks.getD k default).tgt && ((c.blocks.getD k default).reg == 0)) && ((c.blocks.getD k default).els == 0)))))] trivial rfl fun _ => ?_
   refine au 1 2 (v := (!((aG ((⟨c.params, c.regs, c.blocks⟩ : VFnT).blocks.length : Int) (c.blocks.getD k default).tgt && ((c.blocks.getD k default).reg == 0)) && ((c.blocks.getD k default).els == 0)))) rfl rfl rfl rfl (fun a5 => ?_) (fun a5 => ?_)
   ·
    have aw := a5
    try simp only [BS] at aw
    have U := aw
    try simp only [cP, bl] at U
    refine wR 1 [] 2 2 [] [(2, (.bool false))] trivial rfl fun _ => ?_
    refine az ⟨.inr rfl, _, rfl, false, _, (fT (T) E), (HS.forget A), rfl, (by exact iL (eC (k := k) (by omega) (iy (Bool.eq_false_iff.2 fun hv => by rw [ce] at hv; omega))))⟩
   have aw := a5
   try simp only [BS] at aw
   have U := aw
   try simp only [cP, bl] at U
   refine wR 1 [] 45 45 [135] [(45, (iI ((k : Int) + 1)))] (vA (vi (n := (k : Int) + 1) (by omega)) trivial) rfl fun _ => ?_
   refine b4 _ _ _ ?_ ⟨k + 1, _, (fT (T) E), (HS.sub A (List.sublist_append_left _ _)), (agC rfl (agC rfl (agC rfl (agC rfl (agC rfl (agC rfl agN)))))), rfl, (by first | assumption | omega | (simp at *; omega)), (by exact dL ha (iw hal (by first | assumption | (rw [ce]; omega))))⟩
   omega
  have b9 := a4
  try simp only [BS] at b9
  refine wR 1 [] 79 80 [] [(79, (.bool ((c.blocks.getD k default).fin == 2)))] trivial rfl fun _ => ?_
  refine au 0 1 (v := ((c.blocks.getD k default).fin == 2)) rfl rfl rfl rfl (fun a6 => ?_) (fun a6 => ?_)
  ·
   have cc := a6
   try simp only [BS] at cc
   refine wR 3 [(2, .o (iI (c.blocks.getD k default).tgt)), (3, .o (.bool (aG ((⟨c.params, c.regs, c.blocks⟩ : VFnT).blocks.length : Int) (c.blocks.getD k default).tgt))), (7, .o (iI (c.blocks.getD k default).els)), (8, .o (.bool (aG ((⟨c.params, c.regs, c.blocks⟩ : VFnT).blocks.length : Int) (c.blocks.getD k default).els))), (13, .o (iI (c.blocks.getD k default).reg)), (14, .o (.bool (aG (⟨c.params, c.regs, c.blocks⟩ : VFnT).regs (c.blocks.getD k default).reg)))] 81 96 [9] [(9, (.bool ((aG ((⟨c.params, c.regs, c.blocks⟩ : VFnT).blocks.length : Int) (c.blocks.getD k default).tgt && aG ((⟨c.params, c.regs, c.blocks⟩ : VFnT).blocks.length : Int) (c.blocks.getD k default).els) && aG (⟨c.params, c.regs, c.blocks⟩ : VFnT).regs (c.blocks.getD k default).reg)))] (vA (ql 3 3 (HS.hc A (i := 1) rfl) rfl rfl) (vA (jJ ex (c.blocks.getD k default).tgt (⟨c.params, c.regs, c.blocks⟩ : VFnT) av (by omega) (HS.hc A (i := 0) rfl) (by omega) (by omega)) (vA (fun (O : (aG ((⟨c.params, c.regs, c.blocks⟩ : VFnT).blocks.length : Int) (c.blocks.getD k default).tgt) = true) => (ql 3 4 (HS.hc A (i := 1) rfl) rfl rfl)) (vA (fun (O : (aG ((⟨c.params, c.regs, c.blocks⟩ : VFnT).blocks.length : Int) (c.blocks.getD k default).tgt) = true) => (jJ ex (c.blocks.getD k default).els (⟨c.params, c.regs, c.blocks⟩ : VFnT) av (by (try simp only [BS] at O); omega) (HS.hc A (i := 0) rfl) (by (try simp only [BS] at O); omega) (by (try simp only [BS] at O); omega))) (vA (fun (O : (aG ((⟨c.params, c.regs, c.blocks⟩ : VFnT).blocks.length : Int) (c.blocks.getD k default).tgt && aG ((⟨c.params, c.regs, c.blocks⟩ : VFnT).blocks.length : Int) (c.blocks.getD k default).els) = true) => (ql 3 2 (HS.hc A (i := 1) rfl) rfl rfl)) (vA (fun (O : (aG ((⟨c.params, c.regs, c.blocks⟩ : VFnT).blocks.length : Int) (c.blocks.getD k default).tgt && aG ((⟨c.params, c.regs, c.blocks⟩ : VFnT).blocks.length : Int) (c.blocks.getD k default).els) = true) => (cReg_c_q ex (c.blocks.getD k default).reg (⟨c.params, c.regs, c.blocks⟩ : VFnT) av (by (try simp only [BS] at O); omega) (HS.hc A (i := 0) rfl) (by (try simp only [BS] at O); omega) (by (try simp only [BS] at O); omega))) trivial)))))) rfl fun _ => ?_
   refine wR 1 [] 133 134 [] [(134, (.bool (!((aG ((⟨c.params, c.regs, c.blocks⟩ : VFnT).blocks.length : Int) (c.blocks.getD k default).tgt && aG ((⟨c.params, c.regs, c.blocks⟩ : VFnT).blocks.length : Int) (c.blocks.getD k default).els) && aG (⟨c.params, c.regs, c.blocks⟩ : VFnT).regs (c.blocks.getD k default).reg))))] trivial rfl fun _ => ?_
   refine au 1 2 (v := (!((aG ((⟨c.params, c.regs, c.blocks⟩ : VFnT).blocks.length : Int) (c.blocks.getD k default).tgt && aG ((⟨c.params, c.regs, c.blocks⟩ : VFnT).blocks.length : Int) (c.blocks.getD k default).els) && aG (⟨c.params, c.regs, c.blocks⟩ : VFnT).regs (c.blocks.getD k default).reg))) rfl rfl rfl rfl (fun a7 => ?_) (fun a7 => ?_)
   ·
    have ax := a7
    try simp only [BS] at ax
    have U := ax
    try simp only [cP, bl] at U
    refine wR 1 [] 2 2 [] [(2, (.bool false))] trivial rfl fun _ => ?_
    refine az ⟨.inr rfl, _, rfl, false, _, (fT (T) E), (HS.forget A), rfl, (by exact iL (eC (k := k) (by omega) (iy (Bool.eq_false_iff.2 fun hv => by rw [ce] at hv; omega))))⟩
   have ax := a7
   try simp only [BS] at ax
   have U := ax
   try simp only [cP, bl] at U
   refine wR 1 [] 45 45 [135] [(45, (iI ((k : Int) + 1)))] (vA (vi (n := (k : Int) + 1) (by omega)) trivial) rfl fun _ => ?_
   refine b4 _ _ _ ?_ ⟨k + 1, _, (fT (T) E), (HS.sub A (List.sublist_append_left _ _)), (agC rfl (agC rfl (agC rfl (agC rfl (agC rfl (agC rfl agN)))))), rfl, (by first | assumption | omega | (simp at *; omega)), (by exact dL ha (iw hal (by first | assumption | (rw [ce]; omega))))⟩
   omega
  have cc := a6
  try simp only [BS] at cc
  refine wR 1 [] 97 98 [] [(97, (.bool ((c.blocks.getD k default).fin == 3)))] trivial rfl fun _ => ?_
  refine au 0 1 (v := ((c.blocks.getD k default).fin == 3)) rfl rfl rfl rfl (fun a8 => ?_) (fun a8 => ?_)
  ·
   have ci := a8
   try simp only [BS] at ci
   refine wR 3 [(2, .o (iI (c.blocks.getD k default).reg)), (3, .o (.bool (aG (⟨c.params, c.regs, c.blocks⟩ : VFnT).regs (c.blocks.getD k default).reg))), (6, .o (iI (c.blocks.getD k default).tgt)), (11, .o (iI (c.blocks.getD k default).els))] 99 112 [9] [(9, (.bool ((aG (⟨c.params, c.regs, c.blocks⟩ : VFnT).regs (c.blocks.getD k default).reg && ((c.blocks.getD k default).tgt == 0)) && ((c.blocks.getD k default).els == 0))))] (vA (ql 3 2 (HS.hc A (i := 1) rfl) rfl rfl) (vA (cReg_c_q ex (c.blocks.getD k default).reg (⟨c.params, c.regs, c.blocks⟩ : VFnT) av (by omega) (HS.hc A (i := 0) rfl) (by omega) (by omega)) (vA (fun (O : (aG (⟨c.params, c.regs, c.blocks⟩ : VFnT).regs (c.blocks.getD k default).reg) = true) => (ql 3 3 (HS.hc A (i := 1) rfl) rfl rfl)) (vA (fun (O : (aG (⟨c.params, c.regs, c.blocks⟩ : VFnT).regs (c.blocks.getD k default).reg && ((c.blocks.getD k default).tgt == 0)) = true) => (ql 3 4 (HS.hc A (i := 1) rfl) rfl rfl)) trivial)))) rfl fun _ => ?_
   refine wR 1 [] 133 134 [] [(134, (.bool (!((aG (⟨c.params, c.regs, c.blocks⟩ : VFnT).regs (c.blocks.getD k default).reg && ((c.blocks.getD k default).tgt == 0)) && ((c.blocks.getD k default).els == 0)))))] trivial rfl fun _ => ?_
   refine au 1 2 (v := (!((aG (⟨c.params, c.regs, c.blocks⟩ : VFnT).regs (c.blocks.getD k default).reg && ((c.blocks.getD k default).tgt == 0)) && ((c.blocks.getD k default).els == 0)))) rfl rfl rfl rfl (fun a9 => ?_) (fun a9 => ?_)
   ·
    have ay := a9
    try simp only [BS] at ay
    have U := ay
    try simp only [cP, bl] at U
    refine wR 1 [] 2 2 [] [(2, (.bool false))] trivial rfl fun _ => ?_
    refine az ⟨.inr rfl, _, rfl, false, _, (fT (T) E), (HS.forget A), rfl, (by exact iL (eC (k := k) (by omega) (iy (Bool.eq_false_iff.2 fun hv => by rw [ce] at hv; omega))))⟩
   have ay := a9
   try simp only [BS] at ay
   have U := ay
   try simp only [cP, bl] at U
   refine wR 1 [] 45 45 [135] [(45, (iI ((k : Int) + 1)))] (vA (vi (n := (k : Int) + 1) (by omega)) trivial) rfl fun _ => ?_
   refine b4 _ _ _ ?_ ⟨k + 1, _, (fT (T) E), (HS.sub A (List.sublist_append_left _ _)), (agC rfl (agC rfl (agC rfl (agC rfl (agC rfl (agC rfl agN)))))), rfl, (by first | assumption | omega | (simp at *; omega)), (by exact dL ha (iw hal (by first | assumption | (rw [ce]; omega))))⟩
   omega
  have ci := a8
  try simp only [BS] at ci
  refine wR 1 [] 113 114 [] [(113, (.bool ((c.blocks.getD k default).fin == 4)))] trivial rfl fun _ => ?_
  refine au 0 3 (v := ((c.blocks.getD k default).fin == 4)) rfl rfl rfl rfl (fun bb => ?_) (fun bb => ?_)
  ·
   have co := bb
   try simp only [BS] at co
   refine wR 3 [(1, .o (iI (c.blocks.getD k default).tgt)), (5, .o (iI (c.blocks.getD k default).tgt)), (10, .o (iI (c.blocks.getD k default).reg)), (15, .o (iI (c.blocks.getD k default).els))] 115 132 [9] [(9, (.bool ((((decide ((1 : Int) ≤ (c.blocks.getD k default).tgt)) && (decide ((c.blocks.getD k default).tgt < 33554432))) && ((c.blocks.getD k default).reg == 0)) && ((c.blocks.getD k default).els == 0))))] (vA (ql 3 3 (HS.hc A (i := 1) rfl) rfl rfl) (vA (fun (O : (decide ((1 : Int) ≤ (c.blocks.getD k default).tgt)) = true) => (ql 3 3 (HS.hc A (i := 1) rfl) rfl rfl)) (vA (fun (O : ((decide ((1 : Int) ≤ (c.blocks.getD k default).tgt)) && (decide ((c.blocks.getD k default).tgt < 33554432))) = true) => (ql 3 2 (HS.hc A (i := 1) rfl) rfl rfl)) (vA (fun (O : (((decide ((1 : Int) ≤ (c.blocks.getD k default).tgt)) && (decide ((c.blocks.getD k default).tgt < 33554432))) && ((c.blocks.getD k default).reg == 0)) = true) => (ql 3 4 (HS.hc A (i := 1) rfl) rfl rfl)) trivial)))) rfl fun _ => ?_
   refine wR 1 [] 133 134 [] [(134, (.bool (!((((decide ((1 : Int) ≤ (c.blocks.getD k default).tgt)) && (decide ((c.blocks.getD k default).tgt < 33554432))) && ((c.blocks.getD k default).reg == 0)) && ((c.blocks.getD k default).els == 0)))))] trivial rfl fun _ => ?_
   refine au 1 2 (v := (!((((decide ((1 : Int) ≤ (c.blocks.getD k default).tgt)) && (decide ((c.blocks.getD k default).tgt < 33554432))) && ((c.blocks.getD k default).reg == 0)) && ((c.blocks.getD k default).els == 0)))) rfl rfl rfl rfl (fun bk => ?_) (fun bk => ?_)
   ·
    have a0 := bk
    try simp only [BS] at a0
    have U := a0
    try simp only [cP, bl] at U
    refine wR 1 [] 2 2 [] [(2, (.bool false))] trivial rfl fun _ => ?_
    refine az ⟨.inr rfl, _, rfl, false, _, (fT (T) E), (HS.forget A), rfl, (by exact iL (eC (k := k) (by omega) (iy (Bool.eq_false_iff.2 fun hv => by rw [ce] at hv; omega))))⟩
   have a0 := bk
   try simp only [BS] at a0
   have U := a0
   try simp only [cP, bl] at U
   refine wR 1 [] 45 45 [135] [(45, (iI ((k : Int) + 1)))] (vA (vi (n := (k : Int) + 1) (by omega)) trivial) rfl fun _ => ?_
   refine b4 _ _ _ ?_ ⟨k + 1, _, (fT (T) E), (HS.sub A (List.sublist_append_left _ _)), (agC rfl (agC rfl (agC rfl (agC rfl (agC rfl (agC rfl agN)))))), rfl, (by first | assumption | omega | (simp at *; omega)), (by exact dL ha (iw hal (by first | assumption | (rw [ce]; omega))))⟩
   omega
  have co := bb
  try simp only [BS] at co
  refine wR 1 [] 133 134 [] [(134, (.bool true))] trivial rfl fun _ => ?_
  refine bC 1 (v := true) rfl rfl rfl rfl ?_
  refine wR 1 [] 2 2 [] [(2, (.bool false))] trivial rfl fun _ => ?_
  refine az ⟨.inr rfl, _, rfl, false, _, (fT (T) E), (HS.forget A), rfl, (by exact iL (eC (k := k) (by omega) (iy (Bool.eq_false_iff.2 fun hv => by rw [ce] at hv; omega))))⟩
 have b6 := a1
 try simp only [BS] at b6
 refine wR 1 [] 2 2 [] [(2, (.bool true))] trivial rfl fun _ => ?_
 refine az ⟨.inr rfl, _, rfl, true, _, (T), (HS.forget b3), rfl, (by exact val_yes hlim (jm ha (by omega)))⟩
end Go.Proofs.YtknafdcgpaejlaaDoor.m3
