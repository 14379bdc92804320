/-
 Which virtual code is valid: the program and the reference, each by a symbolic run. No condition but that the table lies as laid.
-/
import Derived.Test.YtlabedbmgmfbaaaDoorZDM2
import Derived.Test.YtlabedbmgmfbaaaDoorZDRC
noncomputable section
namespace Go.Proofs.YtlabedbmgmfbaaaDoor.m3
open Go.R
set_option maxRecDepth 10000
set_option linter.unusedVariables false
open m1 m2
theorem cBlk_c (ex : FuncId) (n : Int) {z : Option Addr} {A : Nat} {b_c : Nat} (c : VFnT) (H : Heap) (hn : in64 n) (hc_c : HC H.get b_c 0 [(iI c.params), (iI c.regs), (.slice z c.blocks.length A)]) (I : in64 c.params) (J : in64 c.regs) : C Tryd.prog 1 (KT 60 ex 37 tabC) 67 [(iI n), (.pointer (some ⟨b_c, 0, none⟩))] H fun v H' => ∃ (r : Bool), H' = H ∧ v = .bool r ∧ r = aJ (c.blocks.length : Int) n := by
 refine aL Tryd.func67 rfl rfl ?_
 refine ao 1 rfl ?_
 refine wR 2 [] 3 3 [] [(3, (.bool false))] trivial rfl fun _ => ?_
 refine wR 1 [(5, .o (.slice z c.blocks.length A))] 3 12 [] [(3, (.bool ((decide ((0 : Int) ≤ n)) && (decide (n < (c.blocks.length : Int))))))] (vA (fun (O : (decide ((0 : Int) ≤ n)) = true) => (ql 22 2 hc_c rfl rfl)) trivial) rfl fun _ => ?_
 refine ah ⟨.inr rfl, _, rfl, ((decide ((0 : Int) ≤ n)) && (decide (n < (c.blocks.length : Int)))), rfl, rfl, (by rw [Bool.eq_iff_iff, bp]; simp)⟩
theorem lC (ex : FuncId) (n : Int) {z : Option Addr} {J : Nat} {b_c : Nat} (c : VFnT) (H : Heap) (hn : in64 n) (hc_c : HC H.get b_c 0 [(iI c.params), (iI c.regs), (.slice z c.blocks.length J)]) (A : in64 c.params) (I : in64 c.regs) : C Tryd.prog 1 (KT 60 ex 37 tabC) 67 [(iI n), (.pointer (some ⟨b_c, 0, none⟩))] H fun v H' => v = (.bool (aJ (c.blocks.length : Int) n)) ∧ H' = H :=
 cq (cBlk_c ex n c H hn hc_c A I) (by rintro _ _ ⟨_, rfl, rfl, rfl⟩; exact ⟨rfl, rfl⟩)
theorem cReg_c (ex : FuncId) (n : Int) {z : Option Addr} {A : Nat} {b_c : Nat} (c : VFnT) (H : Heap) (hn : in64 n) (hc_c : HC H.get b_c 0 [(iI c.params), (iI c.regs), (.slice z c.blocks.length A)]) (I : in64 c.params) (J : in64 c.regs) : C Tryd.prog 1 (KT 60 ex 37 tabC) 68 [(iI n), (.pointer (some ⟨b_c, 0, none⟩))] H fun v H' => ∃ (r : Bool), H' = H ∧ v = .bool r ∧ r = aJ c.regs n := by
 refine aL Tryd.func68 rfl rfl ?_
 refine ao 1 rfl ?_
 refine wR 2 [] 3 3 [] [(3, (.bool false))] trivial rfl fun _ => ?_
 refine wR 1 [(5, .o (iI c.regs))] 3 11 [] [(3, (.bool ((decide ((0 : Int) ≤ n)) && (decide (n < c.regs)))))] (vA (fun (O : (decide ((0 : Int) ≤ n)) = true) => (ql 3 1 hc_c rfl rfl)) trivial) rfl fun _ => ?_
 refine ah ⟨.inr rfl, _, rfl, ((decide ((0 : Int) ≤ n)) && (decide (n < c.regs))), rfl, rfl, (by rw [Bool.eq_iff_iff, bp]; simp)⟩
theorem cReg_c_q (ex : FuncId) (n : Int) {z : Option Addr} {J : Nat} {b_c : Nat} (c : VFnT) (H : Heap) (hn : in64 n) (hc_c : HC H.get b_c 0 [(iI c.params), (iI c.regs), (.slice z c.blocks.length J)]) (A : in64 c.params) (I : in64 c.regs) : C Tryd.prog 1 (KT 60 ex 37 tabC) 68 [(iI n), (.pointer (some ⟨b_c, 0, none⟩))] H fun v H' => v = (.bool (aJ c.regs n)) ∧ H' = H :=
 cq (cReg_c ex n c H hn hc_c A I) (by rintro _ _ ⟨_, rfl, rfl, rfl⟩; exact ⟨rfl, rfl⟩)
theorem cRegI_c (ex : FuncId) (n : Int) {z : Option Addr} {A : Nat} {b_c : Nat} (c : VFnT) (H : Heap) (hn : in64 n) (hc_c : HC H.get b_c 0 [(iI c.params), (iI c.regs), (.slice z c.blocks.length A)]) (I : in64 c.params) (J : in64 c.regs) : C Tryd.prog 1 (KT 60 ex 37 tabC) 82 [(iI n), (.pointer (some ⟨b_c, 0, none⟩))] H fun v H' => ∃ (r : Bool), H' = H ∧ v = .bool r ∧ r = aJ c.regs n := by
 refine aL Tryd.func82 rfl rfl ?_
 refine ao 1 rfl ?_
 refine wR 2 [] 3 3 [] [(3, (.bool false))] trivial rfl fun _ => ?_
 refine wR 1 [(5, .o (iI c.regs))] 3 11 [] [(3, (.bool ((decide ((0 : Int) ≤ n)) && (decide (n < c.regs)))))] (vA (fun (O : (decide ((0 : Int) ≤ n)) = true) => (ql 3 1 hc_c rfl rfl)) trivial) rfl fun _ => ?_
 refine ah ⟨.inr rfl, _, rfl, ((decide ((0 : Int) ≤ n)) && (decide (n < c.regs))), rfl, rfl, (by rw [Bool.eq_iff_iff, bp]; simp)⟩
theorem gR (ex : FuncId) (n : Int) {z : Option Addr} {J : Nat} {b_c : Nat} (c : VFnT) (H : Heap) (hn : in64 n) (hc_c : HC H.get b_c 0 [(iI c.params), (iI c.regs), (.slice z c.blocks.length J)]) (A : in64 c.params) (I : in64 c.regs) : C Tryd.prog 1 (KT 60 ex 37 tabC) 82 [(iI n), (.pointer (some ⟨b_c, 0, none⟩))] H fun v H' => v = (.bool (aJ c.regs n)) ∧ H' = H :=
 cq (cRegI_c ex n c H hn hc_c A I) (by rintro _ _ ⟨_, rfl, rfl, rfl⟩; exact ⟨rfl, rfl⟩)
theorem vform_c (ex : FuncId) (op : Int) {F : Fz} {H : Heap} {R : List Fp} (hs : HS (.of H []) F H [] R) (hop : in64 op) (hT : TB 37 tabC F) : C Tryd.prog 1 (KT 60 ex 37 tabC) 83 [(iI op)] H fun v H' => ∃ (r : Int) (F' : Fz), Fz.le F F' ∧ HS (.of H []) F' H' [] R ∧ v = .int .i64 r ∧ r = aw op := by
 refine aL Tryd.func83 rfl rfl ?_
 refine ao 1 rfl ?_
 refine wR 3 [] 2 2 [] [(2, (iI 0))] trivial rfl fun _ => ?_
 refine wR 1 [] 5 6 [] [(6, (.bool (op == 38)))] trivial rfl fun _ => ?_
 refine am 1 2 (v := (op == 38)) rfl rfl rfl rfl (fun J => ?_) (fun J => ?_)
 ·
  try simp only [BS] at J
  refine wR 1 [] 2 2 [] [(2, (iI 5))] trivial rfl fun _ => ?_
  refine ah ⟨.inr rfl, _, rfl, 5, _, fR, (HS.forget hs), rfl, (by unfold aw; split <;> first | rfl | omega)⟩
 ·
  try simp only [BS] at J
  refine ab ?_
  refine wm (iI op) rfl rfl rfl ?_
  refine aD (az rfl rfl rfl) rfl rfl (m1.mInfo_c ex op (HS.call hs) (by omega) hT) ?_
  rintro _ H5 ⟨x5, o5, Z, T, z, rfl, U, V, rfl, rfl⟩
  replace z := HS.back hs rfl z
  have z : HS _ _ _ [] _ := z
  refine wRo 3 2 [] 10 11 [7] [(10, (.agg ⟨[(.string ⟨⟨(aI op).name.b⟩⟩), (iI (aI op).form), (.bool (aI op).ra), (.bool (aI op).wa), (.bool (aI op).rb), (.bool (aI op).mt), (iI (aI op).words)]⟩)), (11, (.bool (infO op)))] trivial rfl fun _ => ?_
  refine aR (bK z rfl) rfl rfl ?_
  rintro _ H8 _ ⟨O, rfl, I, _⟩
  have I : HS _ _ _ [[(O, .cells [(.string ⟨⟨[]⟩⟩), (iI 0), (.bool false), (.bool false), (.bool false), (.bool false), (iI 0)] none false)]] _ := I
  refine aU (aG (q := 0) I rfl rfl rfl rfl rfl rfl rfl rfl rfl) rfl ?_
  rintro _ H9 _ ⟨A, _⟩
  have A : HS _ _ _ [[(O, .cells [(.string ⟨⟨(aI op).name.b⟩⟩), (iI (aI op).form), (.bool (aI op).ra), (.bool (aI op).wa), (.bool (aI op).rb), (.bool (aI op).mt), (iI (aI op).words)] none false)]] _ := A
  refine wa (.bool (infO op)) rfl rfl rfl ?_
  refine ai 2 rfl ?_
  refine wR 1 [(1, .o (iI (aI op).form))] 12 13 [2] [(2, (iI (aI op).form))] (vA (ql 3 1 (HS.hc A (i := 0) rfl) rfl rfl) trivial) rfl fun _ => ?_
  refine ah ⟨.inr rfl, _, rfl, (aI op).form, _, (T), (HS.forget A), rfl, (by unfold aw; split <;> first | rfl | omega)⟩
theorem rinfo_c (ex : FuncId) (op : Int) {F : Fz} {H : Heap} {R : List Fp} (hs : HS (.of H []) F H [] R) (hop : in64 op) (hT : TB 37 tabC F) : C Tryd.prog 1 (KT 60 ex 37 tabC) 65 [(iI op)] H fun v H' => ∃ (x : InfT) (F' : Fz), Fz.le F F' ∧ HS (.of H []) F' H' [] R ∧ v = .agg ⟨[.string ⟨⟨x.name.b⟩⟩, .int .i64 x.form, .bool x.ra, .bool x.wa, .bool x.rb, .bool x.mt, .int .i64 x.words]⟩ ∧ in64 x.form ∧ in64 x.words ∧ x = br op := by
 refine aL Tryd.func65 rfl rfl ?_
 refine ao 1 rfl ?_
 refine ab ?_
 refine aR (bK hs rfl) rfl rfl ?_
 rintro _ H2 _ ⟨V, rfl, I, _⟩
 have I : HS _ _ _ [[(V, .cells [(.string ⟨⟨[]⟩⟩), (iI 0), (.bool false), (.bool false), (.bool false), (.bool false), (iI 0)] none false)]] _ := I
 refine ai 3 rfl ?_
 refine wR 1 [] 5 6 [] [(6, (.bool (op == 38)))] trivial rfl fun _ => ?_
 refine am 1 2 (v := (op == 38)) rfl rfl rfl rfl (fun Z => ?_) (fun Z => ?_)
 ·
  try simp only [BS] at Z
  refine ab ?_
  refine wRo 1 0 [] 7 7 [] [(7, (.agg ⟨[(.string ⟨⟨[]⟩⟩), (iI 5), (.bool false), (.bool true), (.bool false), (.bool false), (iI 0)]⟩))] trivial rfl fun _ => ?_
  refine aU (aG (q := 0) I rfl rfl rfl rfl rfl rfl rfl rfl rfl) rfl ?_
  rintro _ H6 _ ⟨T, _⟩
  have T : HS _ _ _ [[(V, .cells [(.string ⟨⟨[]⟩⟩), (iI 5), (.bool false), (.bool true), (.bool false), (.bool false), (iI 0)] none false)]] _ := T
  refine ai 1 rfl ?_
  refine ah ⟨.inr rfl, _, (rC rfl (ldVN rfl rfl (HS.hc T (i := 0) rfl) rfl) rN), (⟨⟨[]⟩, 5, false, true, false, false, 0⟩ : InfT), _, fR, (HS.forget T), rfl, (by (dsimp only; omega)), (by (dsimp only; omega)), (by unfold br; split <;> first | rfl | omega)⟩
 ·
  try simp only [BS] at Z
  refine ab ?_
  refine wm (iI op) rfl rfl rfl ?_
  refine aD (az rfl rfl rfl) rfl rfl (m1.rInfo_c ex op (HS.call I) (by omega) hT) ?_
  rintro _ H7 ⟨x7, o7, F7, ag, J, rfl, aj, ap, rfl, rfl⟩
  replace J := HS.back I rfl J
  have J : HS _ _ _ [_] _ := J
  let U : Value := (.agg ⟨[(.string ⟨⟨(aI op).name.b⟩⟩), (iI (aI op).form), (.bool (aI op).ra), (.bool (aI op).wa), (.bool (aI op).rb), (.bool (aI op).mt), (iI (aI op).words)]⟩)
  refine wRo 3 2 [] 11 12 [8] [(11, U), (12, (.bool (infO op)))] trivial rfl fun _ => ?_
  refine aR (bK J rfl) rfl rfl ?_
  rintro _ aq _ ⟨b9, rfl, O, _⟩
  have O : HS _ _ _ [_, [(b9, .cells [(.string ⟨⟨[]⟩⟩), (iI 0), (.bool false), (.bool false), (.bool false), (.bool false), (iI 0)] none false)]] _ := O
  refine aU (aG (q := 1) O rfl rfl rfl rfl rfl rfl rfl rfl rfl) rfl ?_
  rintro _ ar _ ⟨z, _⟩
  have z : HS _ _ _ [_, [(b9, .cells [(.string ⟨⟨(aI op).name.b⟩⟩), (iI (aI op).form), (.bool (aI op).ra), (.bool (aI op).wa), (.bool (aI op).rb), (.bool (aI op).mt), (iI (aI op).words)] none false)]] _ := z
  refine wa (.bool (infO op)) rfl rfl rfl ?_
  refine ai 2 rfl ?_
  refine ab ?_
  refine wRo 1 0 [(0, .o U)] 13 13 [] [(13, U)] (vA (qn 96 0 7 (HS.hc z (i := 1) rfl) rfl rfl rfl rfl) trivial) rfl fun _ => ?_
  refine aU (aG (q := 0) z rfl rfl rfl rfl rfl rfl rfl rfl rfl) rfl ?_
  rintro _ av _ ⟨A, _⟩
  have A : HS _ _ _ [[(V, .cells [(.string ⟨⟨(aI op).name.b⟩⟩), (iI (aI op).form), (.bool (aI op).ra), (.bool (aI op).wa), (.bool (aI op).rb), (.bool (aI op).mt), (iI (aI op).words)] none false)], _] _ := A
  refine ai 1 rfl ?_
  refine ah ⟨.inr rfl, _, (rC rfl (ldVN rfl rfl (HS.hc A (i := 0) rfl) rfl) rN), (⟨⟨(aI op).name.b⟩, (aI op).form, (aI op).ra, (aI op).wa, (aI op).rb, (aI op).mt, (aI op).words⟩ : InfT), _, (ag), (HS.forget A), rfl, (by omega), (by omega), (by unfold br; split <;> first | rfl | omega)⟩
theorem rOperand_c (ex : FuncId) (has : Bool) (n : Int) (regs : Int) (H : Heap) (hn : in64 n) (hregs : in64 regs) : C Tryd.prog 1 (KT 60 ex 37 tabC) 84 [(.bool has), (iI n), (iI regs)] H fun v H' => ∃ (r : Bool), H' = H ∧ v = .bool r ∧ r = dq has n regs := by
 refine aL Tryd.func84 rfl rfl ?_
 refine ao 1 rfl ?_
 refine wR 3 [] 6 6 [] [(6, (.bool false))] trivial rfl fun _ => ?_
 refine wR 1 [] 7 7 [] [(7, (.bool has))] trivial rfl fun _ => ?_
 refine am 1 2 (v := has) rfl rfl rfl rfl (fun z => ?_) (fun z => ?_)
 ·
  have A := z
  try simp only [BS] at A
  refine wR 1 [] 8 14 [6] [(6, (.bool ((decide ((0 : Int) ≤ n)) && (decide (n < regs)))))] trivial rfl fun _ => ?_
  refine ah ⟨.inr rfl, _, rfl, ((decide ((0 : Int) ≤ n)) && (decide (n < regs))), rfl, rfl, (by rw [Bool.eq_iff_iff]; unfold dq; simp [bp, z])⟩
 ·
  have A := z
  try simp only [BS] at A
  refine wR 1 [] 15 16 [6] [(6, (.bool (n == 0)))] trivial rfl fun _ => ?_
  refine ah ⟨.inr rfl, _, rfl, (n == 0), rfl, rfl, (by rw [Bool.eq_iff_iff]; unfold dq; simp [z])⟩
theorem ff (ex : FuncId) (has : Bool) (n : Int) (regs : Int) (H : Heap) (hn : in64 n) (hregs : in64 regs) : C Tryd.prog 1 (KT 60 ex 37 tabC) 84 [(.bool has), (iI n), (iI regs)] H fun v H' => v = (.bool (dq has n regs)) ∧ H' = H :=
 cq (rOperand_c ex has n regs H hn hregs) (by rintro _ _ ⟨_, rfl, rfl, rfl⟩; exact ⟨rfl, rfl⟩)
set_option maxHeartbeats 1000000 in
theorem vinstr_c (ex : FuncId) {a0 : Option Addr} {a1 : Nat} (c : VFnT) {J : Option Addr} {O : Nat} (iv : VInT) {F : Fz} {H : Heap} {R : List Fp} (hs : HS (.of H []) F H [] R) (ec : in64 c.params) (ei : in64 c.regs) (el : SR F (.slice a0 c.blocks.length a1) c.blocks) (dl : in64 iv.i.op) (dn : in64 iv.i.a) (ds : in64 iv.i.b) (dt : in64 iv.i.c) (d1 : in64 iv.i.n) (ag : SR F (.slice J iv.args.length O) iv.args) (hT : TB 37 tabC F) : C Tryd.prog 1 (KT 60 ex 37 tabC) 69 [(.agg ⟨[(iI c.params), (iI c.regs), (.slice a0 c.blocks.length a1)]⟩), (.agg ⟨[(iI iv.i.op), (iI iv.i.a), (iI iv.i.b), (iI iv.i.c), (iI iv.i.n), (.slice J iv.args.length O)]⟩)] H fun v H' => ∃ (r : Bool) (F' : Fz), Fz.le F F' ∧ HS (.of H []) F' H' [] R ∧ v = .bool r ∧ r = eg c.params c.regs iv := by
 refine aL Tryd.func69 rfl rfl ?_
 refine ao 1 rfl ?_
 refine ab ?_
 refine aR (cw hs rfl rfl) rfl rfl ?_
 rintro _ H2 _ ⟨b1, rfl, ch, _⟩
 let c3 : Fp := [(b1, .cells [(iI c.params), (iI c.regs), (.slice a0 c.blocks.length a1)] none false)]
 have ch : HS _ _ _ [c3] _ := ch
 refine aR (cw ch rfl rfl) rfl rfl ?_
 rintro _ H4 _ ⟨b3, rfl, a3, _⟩
 let c4 : Fp := [(b3, .cells [(iI iv.i.op), (iI iv.i.a), (iI iv.i.b), (iI iv.i.c), (iI iv.i.n), (.slice J iv.args.length O)] none false)]
 have a3 : HS _ _ _ [_, c4] _ := a3
 refine wa (.bool false) rfl rfl rfl ?_
 refine ai 2 rfl ?_
 refine ab ?_
 let c5 : Value := (.agg ⟨[(iI iv.i.op), (iI iv.i.a), (iI iv.i.b), (iI iv.i.c), (iI iv.i.n)]⟩)
 refine wRo 2 0 [(1, .o c5)] 13 14 [] [(14, c5)] (vA (qn 45 0 5 (HS.hc a3 (i := 1) rfl) rfl rfl rfl rfl) trivial) rfl fun _ => ?_
 refine aR (bK a3 rfl) rfl rfl ?_
 rintro _ H7 _ ⟨b6, rfl, ci, _⟩
 have ci : HS _ _ _ [_, _, [(b6, .cells [(iI 0), (iI 0), (iI 0), (iI 0), (iI 0)] none false)]] _ := ci
 refine aU (aG (q := 2) ci rfl rfl rfl rfl rfl rfl rfl rfl rfl) rfl ?_
 rintro _ H8 _ ⟨Z, _⟩
 let c6 : Fp := [(b6, .cells [(iI iv.i.op), (iI iv.i.a), (iI iv.i.b), (iI iv.i.c), (iI iv.i.n)] none false)]
 have Z : HS _ _ _ [_, _, c6] _ := Z
 refine ai 3 rfl ?_
 refine wR 1 [(1, .o (iI iv.i.op)), (2, .o (.bool (alV iv.i.op))), (6, .o (.slice J iv.args.length O)), (12, .o (iI iv.i.op)), (16, .o (.slice J iv.args.length O))] 15 35 [] [(35, (.bool (((!(alV iv.i.op)) || (decide ((6 : Int) < (iv.args.length : Int)))) || ((iv.i.op != 6) && (decide ((0 : Int) < (iv.args.length : Int)))))))] (vA (ql 3 0 (HS.hc Z (i := 2) rfl) rfl rfl) (vA (m1.kW ex iv.i.op H8) (vA (fun (A : (!(alV iv.i.op)) = false) => (ql 25 5 (HS.hc Z (i := 1) rfl) rfl rfl)) (vA (fun (A : ((!(alV iv.i.op)) || (decide ((6 : Int) < (iv.args.length : Int)))) = false) => (ql 3 0 (HS.hc Z (i := 2) rfl) rfl rfl)) (vA (fun (A : (iv.i.op != 6) = true) (V : ((!(alV iv.i.op)) || (decide ((6 : Int) < (iv.args.length : Int)))) = false) => (ql 25 5 (HS.hc Z (i := 1) rfl) rfl rfl)) trivial))))) rfl fun _ => ?_
 refine am 1 2 (v := (((!(alV iv.i.op)) || (decide ((6 : Int) < (iv.args.length : Int)))) || ((iv.i.op != 6) && (decide ((0 : Int) < (iv.args.length : Int)))))) rfl rfl rfl rfl (fun ar => ?_) (fun ar => ?_)
 ·
  try simp only [BS] at ar
  have hbad := ar
  refine wR 1 [] 4 4 [] [(4, (.bool false))] trivial rfl fun _ => ?_
  refine ah ⟨.inr rfl, _, rfl, false, _, fR, (HS.forget Z), rfl, (by exact vin_bad hbad)⟩
 ·
  try simp only [BS] at ar
  have hal : alV iv.i.op = true := (ar).1.1
  have h6 : iv.i.op = 6 ∨ iv.args.length = 0 := by omega
  have c0 : iv.args.length ≤ 6 := by omega
  refine wR 3 [] 36 36 [6] [(6, (.func (.func 82) #[] #[(.pointer (some ⟨b1, 0, none⟩))]))] trivial rfl fun _ => ?_
  refine wR 2 [(1, .o (.slice J iv.args.length O))] 37 40 [] [(38, (.slice J iv.args.length O)), (39, (iI (iv.args.length : Int))), (40, (iI 0))] (vA (ql 25 5 (HS.hc Z (i := 1) rfl) rfl rfl) trivial) rfl fun _ => ?_
  refine aC (fun (mm : Nat) f H' => ∃ (k : Nat) (F' : Fz), Fz.le F F' ∧ HS (Base.of H []) F' H' [c3, c4, c6] R ∧ aT f [(2, (.pointer (some ⟨b1, 0, none⟩))), (5, (.pointer (some ⟨b6, 0, none⟩))), (6, (.func (.func 82) #[] #[(.pointer (some ⟨b1, 0, none⟩))])), (38, (.slice J iv.args.length O)), (39, (iI (iv.args.length : Int))), (40, (iI (k : Int)))] ∧ mm = iv.args.length - k ∧ (k ≤ iv.args.length) ∧ (∀ j, j < k → aJ c.regs (iv.args.getD j default) = true)) _ ⟨0, _, fR, Z, ⟨rfl, rfl, rfl, rfl, rfl, rfl, trivial⟩, rfl, (by omega), (by exact cP)⟩ ?_
  rintro em et c8 ⟨k, ep, I, T, b7, rfl, hk, ha⟩ c7
  refine aH _ b7 (fun _ => ?_)
  clear b7
  replace hT := hT.mono I
  replace ag := ag.mono I
  refine ao 1 rfl ?_
  refine wR 2 [] 41 41 [] [(41, (.bool (decide ((k : Int) < (iv.args.length : Int)))))] trivial rfl fun _ => ?_
  refine am 4 5 (v := (decide ((k : Int) < (iv.args.length : Int)))) rfl rfl rfl rfl (fun a5 => ?_) (fun a5 => ?_)
  ·
   try simp only [BS] at a5
   obtain ⟨eb, co⟩ := Sv.view (SR.sv ag T)
   have ey := fI (co k)
   refine wR 2 [(1, .o (iI (iv.args.getD k 0)))] 42 43 [8] [(8, (iI (iv.args.getD k 0)))] (vA (Sv.ix (j := (k : Int)) (SR.sv ag T) (by omega) (by omega)) (vA (ql 3 0 (vI (co k) (by omega)) rfl rfl) trivial)) rfl fun _ => ?_
   refine wR 1 [(2, .o (.bool (aJ c.regs (iv.args.getD k 0))))] 44 47 [] [(47, (.bool (!(aJ c.regs (iv.args.getD k 0)))))] (vA (gR ex (iv.args.getD k 0) c c8 (by omega) (HS.hc T (i := 0) rfl) (by omega) (by omega)) trivial) rfl fun _ => ?_
   refine am 1 2 (v := (!(aJ c.regs (iv.args.getD k 0)))) rfl rfl rfl rfl (fun a2 => ?_) (fun a2 => ?_)
   ·
    try simp only [BS] at a2
    have dd := a2
    refine wR 1 [] 4 4 [] [(4, (.bool false))] trivial rfl fun _ => ?_
    refine ah ⟨.inr rfl, _, rfl, false, _, (I), (HS.forget T), rfl, (by exact vin_no (cL (by omega) dd))⟩
   ·
    try simp only [BS] at a2
    refine wR 1 [] 40 40 [48] [(40, (iI ((k : Int) + 1)))] (vA (vi (n := (k : Int) + 1) (by omega)) trivial) rfl fun _ => ?_
    refine c7 _ _ _ ?_ ⟨k + 1, _, (I), T, ⟨rfl, rfl, rfl, rfl, rfl, rfl, trivial⟩, rfl, (by omega), (by exact b8 ha (by assumption))⟩
    omega
  ·
   try simp only [BS] at a5
   have hall := dC ha (by omega)
   refine wR 3 [] 1 0 [9, 10, 11, 12] [(9, (.bool false)), (10, (.bool false)), (11, (.bool false)), (12, (.bool false))] trivial rfl fun _ => ?_
   refine ab ?_
   refine wRo 2 0 [(1, .o (iI iv.i.op))] 49 50 [] [(50, (iI iv.i.op))] (vA (ql 3 0 (HS.hc T (i := 2) rfl) rfl rfl) trivial) rfl fun _ => ?_
   refine aD (az rfl rfl rfl) rfl rfl (vform_c ex iv.i.op (HS.call T) (by omega) hT) ?_
   rintro _ aq ⟨ez, es, U, z, rfl, rfl⟩
   replace z := HS.back T rfl z
   have z : HS _ _ _ [_, _, _] _ := z
   refine ai 3 rfl ?_
   refine wR 1 [] 52 53 [] [(52, (.bool (aw iv.i.op == 2)))] trivial rfl fun _ => ?_
   refine cT (fun f H' => ∃ (av : Bool) (bv : Bool) (dv : Bool) (nv : Bool), H' = aq ∧ aT f [(2, (.pointer (some ⟨b1, 0, none⟩))), (5, (.pointer (some ⟨b6, 0, none⟩))), (6, (.func (.func 82) #[] #[(.pointer (some ⟨b1, 0, none⟩))])), (9, (.bool av)), (10, (.bool bv)), (11, (.bool dv)), (12, (.bool nv))] ∧ (av = decide (aw iv.i.op ≠ 1)) ∧ (bv = decide (aw iv.i.op = 3 ∨ aw iv.i.op = 4 ∨ aw iv.i.op = 7)) ∧ (dv = decide (aw iv.i.op = 4)) ∧ (nv = decide (aw iv.i.op = 5 ∨ aw iv.i.op = 7))) (fun ad => ?_) ?_
   ·
    refine am 0 1 (v := (aw iv.i.op == 2)) rfl rfl rfl rfl (fun a6 => ?_) (fun a6 => ?_)
    ·
     try simp only [BS] at a6
     refine wR 0 [] 1 0 [9] [(9, (.bool true))] trivial rfl fun _ => ?_
     exact ad _ _ ⟨true, false, false, false, rfl, ⟨rfl, rfl, rfl, rfl, rfl, rfl, rfl, trivial⟩, (by (symm; apply decide_eq_true; omega)), (by (symm; apply decide_eq_false; have hf := bc hal; omega)), (by (symm; apply decide_eq_false; have hf := bc hal; omega)), (by (symm; apply decide_eq_false; have hf := bc hal; omega))⟩
    ·
     try simp only [BS] at a6
     refine wR 1 [] 54 55 [] [(54, (.bool (aw iv.i.op == 3)))] trivial rfl fun _ => ?_
     refine am 0 1 (v := (aw iv.i.op == 3)) rfl rfl rfl rfl (fun a7 => ?_) (fun a7 => ?_)
     ·
      try simp only [BS] at a7
      refine wR 0 [] 1 0 [9, 10] [(9, (.bool true)), (10, (.bool true))] trivial rfl fun _ => ?_
      exact ad _ _ ⟨true, true, false, false, rfl, ⟨rfl, rfl, rfl, rfl, rfl, rfl, rfl, trivial⟩, (by (symm; apply decide_eq_true; omega)), (by (symm; apply decide_eq_true; omega)), (by (symm; apply decide_eq_false; have hf := bc hal; omega)), (by (symm; apply decide_eq_false; have hf := bc hal; omega))⟩
     ·
      try simp only [BS] at a7
      refine wR 1 [] 56 57 [] [(56, (.bool (aw iv.i.op == 4)))] trivial rfl fun _ => ?_
      refine am 0 1 (v := (aw iv.i.op == 4)) rfl rfl rfl rfl (fun a8 => ?_) (fun a8 => ?_)
      ·
       try simp only [BS] at a8
       refine wR 0 [] 1 0 [9, 10, 11] [(9, (.bool true)), (10, (.bool true)), (11, (.bool true))] trivial rfl fun _ => ?_
       exact ad _ _ ⟨true, true, true, false, rfl, ⟨rfl, rfl, rfl, rfl, rfl, rfl, rfl, trivial⟩, (by (symm; apply decide_eq_true; omega)), (by (symm; apply decide_eq_true; omega)), (by (symm; apply decide_eq_true; omega)), (by (symm; apply decide_eq_false; have hf := bc hal; omega))⟩
      ·
       try simp only [BS] at a8
       refine wR 1 [] 58 59 [] [(58, (.bool (aw iv.i.op == 5)))] trivial rfl fun _ => ?_
       refine am 0 1 (v := (aw iv.i.op == 5)) rfl rfl rfl rfl (fun a9 => ?_) (fun a9 => ?_)
       ·
        try simp only [BS] at a9
        refine wR 0 [] 1 0 [9, 12] [(9, (.bool true)), (12, (.bool true))] trivial rfl fun _ => ?_
        exact ad _ _ ⟨true, false, false, true, rfl, ⟨rfl, rfl, rfl, rfl, rfl, rfl, rfl, trivial⟩, (by (symm; apply decide_eq_true; omega)), (by (symm; apply decide_eq_false; have hf := bc hal; omega)), (by (symm; apply decide_eq_false; have hf := bc hal; omega)), (by (symm; apply decide_eq_true; omega))⟩
       ·
        try simp only [BS] at a9
        refine wR 1 [] 60 61 [] [(60, (.bool (aw iv.i.op == 7)))] trivial rfl fun _ => ?_
        refine am 0 0 (v := (aw iv.i.op == 7)) rfl rfl rfl rfl (fun bb => ?_) (fun bb => ?_)
        ·
         try simp only [BS] at bb
         refine wR 0 [] 1 0 [9, 10, 12] [(9, (.bool true)), (10, (.bool true)), (12, (.bool true))] trivial rfl fun _ => ?_
         exact ad _ _ ⟨true, true, false, true, rfl, ⟨rfl, rfl, rfl, rfl, rfl, rfl, rfl, trivial⟩, (by (symm; apply decide_eq_true; omega)), (by (symm; apply decide_eq_true; omega)), (by (symm; apply decide_eq_false; have hf := bc hal; omega)), (by (symm; apply decide_eq_true; omega))⟩
        ·
         try simp only [BS] at bb
         exact ad _ _ ⟨false, false, false, false, rfl, ⟨rfl, rfl, rfl, rfl, rfl, rfl, rfl, trivial⟩, (by (symm; apply decide_eq_false; have hf := bc hal; omega)), (by (symm; apply decide_eq_false; have hf := bc hal; omega)), (by (symm; apply decide_eq_false; have hf := bc hal; omega)), (by (symm; apply decide_eq_false; have hf := bc hal; omega))⟩
   ·
    rintro ev aq ⟨av, bv, dv, nv, rfl, b9, hav, hbv, hdv, hnv⟩
    refine aH _ b9 (fun _ => ?_)
    clear b9
    refine ao 4 rfl ?_
    refine wR 1 [(4, .o (iI iv.i.a)), (5, .o (.bool (aJ c.regs iv.i.a))), (13, .o (iI iv.i.b)), (14, .o (.bool (aJ c.regs iv.i.b))), (23, .o (iI iv.i.c)), (24, .o (.bool (aJ c.regs iv.i.c))), (33, .o (iI iv.i.a)), (42, .o (iI iv.i.b)), (51, .o (iI iv.i.c)), (60, .o (iI iv.i.n))] 62 125 [] [(125, (.bool (((((((av && (!(aJ c.regs iv.i.a))) || (bv && (!(aJ c.regs iv.i.b)))) || (dv && (!(aJ c.regs iv.i.c)))) || ((!av) && (iv.i.a != 0))) || ((!bv) && (iv.i.b != 0))) || ((!dv) && (iv.i.c != 0))) || ((!nv) && (iv.i.n != 0)))))] (vA (fun (A : av = true) => (ql 3 1 (HS.hc z (i := 2) rfl) rfl rfl)) (vA (fun (A : av = true) => (gR ex iv.i.a c aq (by (try simp only [BS] at A); omega) (HS.hc z (i := 0) rfl) (by (try simp only [BS] at A); omega) (by (try simp only [BS] at A); omega))) (vA (fun (A : bv = true) (V : (av && (!(aJ c.regs iv.i.a))) = false) => (ql 3 2 (HS.hc z (i := 2) rfl) rfl rfl)) (vA (fun (A : bv = true) (V : (av && (!(aJ c.regs iv.i.a))) = false) => (gR ex iv.i.b c aq (by (try simp only [BS] at A V); omega) (HS.hc z (i := 0) rfl) (by (try simp only [BS] at A V); omega) (by (try simp only [BS] at A V); omega))) (vA (fun (A : dv = true) (V : ((av && (!(aJ c.regs iv.i.a))) || (bv && (!(aJ c.regs iv.i.b)))) = false) => (ql 3 3 (HS.hc z (i := 2) rfl) rfl rfl)) (vA (fun (A : dv = true) (V : ((av && (!(aJ c.regs iv.i.a))) || (bv && (!(aJ c.regs iv.i.b)))) = false) => (gR ex iv.i.c c aq (by (try simp only [BS] at A V); omega) (HS.hc z (i := 0) rfl) (by (try simp only [BS] at A V); omega) (by (try simp only [BS] at A V); omega))) (vA (fun (A : (!av) = true) (V : (((av && (!(aJ c.regs iv.i.a))) || (bv && (!(aJ c.regs iv.i.b)))) || (dv && (!(aJ c.regs iv.i.c)))) = false) => (ql 3 1 (HS.hc z (i := 2) rfl) rfl rfl)) (vA (fun (A : (!bv) = true) (V : ((((av && (!(aJ c.regs iv.i.a))) || (bv && (!(aJ c.regs iv.i.b)))) || (dv && (!(aJ c.regs iv.i.c)))) || ((!av) && (iv.i.a != 0))) = false) => (ql 3 2 (HS.hc z (i := 2) rfl) rfl rfl)) (vA (fun (A : (!dv) = true) (V : (((((av && (!(aJ c.regs iv.i.a))) || (bv && (!(aJ c.regs iv.i.b)))) || (dv && (!(aJ c.regs iv.i.c)))) || ((!av) && (iv.i.a != 0))) || ((!bv) && (iv.i.b != 0))) = false) => (ql 3 3 (HS.hc z (i := 2) rfl) rfl rfl)) (vA (fun (A : (!nv) = true) (V : ((((((av && (!(aJ c.regs iv.i.a))) || (bv && (!(aJ c.regs iv.i.b)))) || (dv && (!(aJ c.regs iv.i.c)))) || ((!av) && (iv.i.a != 0))) || ((!bv) && (iv.i.b != 0))) || ((!dv) && (iv.i.c != 0))) = false) => (ql 2 4 (HS.hc z (i := 2) rfl) rfl rfl)) trivial)))))))))) rfl fun _ => ?_
    refine am 1 3 (v := (((((((av && (!(aJ c.regs iv.i.a))) || (bv && (!(aJ c.regs iv.i.b)))) || (dv && (!(aJ c.regs iv.i.c)))) || ((!av) && (iv.i.a != 0))) || ((!bv) && (iv.i.b != 0))) || ((!dv) && (iv.i.c != 0))) || ((!nv) && (iv.i.n != 0)))) rfl rfl rfl rfl (fun aj => ?_) (fun aj => ?_)
    ·
     have bj := aj
     try simp only [BS] at bj
     have dk := aj
     refine wR 1 [] 4 4 [] [(4, (.bool false))] trivial rfl fun _ => ?_
     refine ah ⟨.inr rfl, _, rfl, false, _, (fT (I) U), (HS.forget z), rfl, (by exact vin_bad3v hal h6 c0 hall hav hbv hdv hnv dk)⟩
    ·
     have bj := aj
     try simp only [BS] at bj
     have hgood := vin_good3v (params := c.params) hal h6 c0 hall hav hbv hdv hnv aj
     refine wR 3 [(1, .o (iI iv.i.op))] 126 127 [] [(127, (iI iv.i.op))] (vA (ql 3 0 (HS.hc z (i := 2) rfl) rfl rfl) trivial) rfl fun _ => ?_
     refine wR 1 [] 128 129 [] [(128, (.bool (iv.i.op == 33)))] trivial rfl fun _ => ?_
     refine am 1 1 (v := (iv.i.op == 33)) rfl rfl rfl rfl (fun bl => ?_) (fun bl => ?_)
     ·
      try simp only [BS] at bl
      refine wR 1 [(1, .o (iI iv.i.n)), (5, .o (iI iv.i.n))] 130 137 [4] [(4, (.bool ((decide ((-4194304 : Int) ≤ iv.i.n)) && (decide (iv.i.n < 4194304)))))] (vA (ql 2 4 (HS.hc z (i := 2) rfl) rfl rfl) (vA (fun (A : (decide ((-4194304 : Int) ≤ iv.i.n)) = true) => (ql 2 4 (HS.hc z (i := 2) rfl) rfl rfl)) trivial)) rfl fun _ => ?_
      refine ah ⟨.inr rfl, _, rfl, ((decide ((-4194304 : Int) ≤ iv.i.n)) && (decide (iv.i.n < 4194304))), _, (fT (I) U), (HS.forget z), rfl, (by rw [hgood.1]; first | exact (dx hal hgood.2 (by omega) (by omega) (by omega) (by omega)).symm | (unfold gK; (repeat' split) <;> first | omega | rfl | (rw [Bool.eq_iff_iff] <;> simp)))⟩
     ·
      try simp only [BS] at bl
      refine wR 1 [] 138 139 [] [(138, (.bool (iv.i.op == 6)))] trivial rfl fun _ => ?_
      refine am 1 2 (v := (iv.i.op == 6)) rfl rfl rfl rfl (fun b0 => ?_) (fun b0 => ?_)
      ·
       try simp only [BS] at b0
       refine wR 1 [(1, .o (iI iv.i.n)), (5, .o (iI iv.i.n))] 140 147 [4] [(4, (.bool ((decide ((0 : Int) ≤ iv.i.n)) && (decide (iv.i.n < 8)))))] (vA (ql 2 4 (HS.hc z (i := 2) rfl) rfl rfl) (vA (fun (A : (decide ((0 : Int) ≤ iv.i.n)) = true) => (ql 2 4 (HS.hc z (i := 2) rfl) rfl rfl)) trivial)) rfl fun _ => ?_
       refine ah ⟨.inr rfl, _, rfl, ((decide ((0 : Int) ≤ iv.i.n)) && (decide (iv.i.n < 8))), _, (fT (I) U), (HS.forget z), rfl, (by rw [hgood.1]; first | exact (dx hal hgood.2 (by omega) (by omega) (by omega) (by omega)).symm | (unfold gK; (repeat' split) <;> first | omega | rfl | (rw [Bool.eq_iff_iff] <;> simp)))⟩
      ·
       try simp only [BS] at b0
       refine wR 1 [] 148 149 [] [(148, (.bool (iv.i.op == 34)))] trivial rfl fun _ => ?_
       refine am 1 0 (v := (iv.i.op == 34)) rfl rfl rfl rfl (fun ap => ?_) (fun ap => ?_)
       ·
        have b2 := ap
        try simp only [BS] at b2
        refine bh 1 (v := (iv.i.op == 34)) rfl ap rfl rfl ?_
        refine wR 1 [(1, .o (iI iv.i.n)), (5, .o (iI iv.i.n))] 151 158 [4] [(4, (.bool ((decide ((0 : Int) ≤ iv.i.n)) && (decide (iv.i.n < 4)))))] (vA (ql 2 4 (HS.hc z (i := 2) rfl) rfl rfl) (vA (fun (A : (decide ((0 : Int) ≤ iv.i.n)) = true) => (ql 2 4 (HS.hc z (i := 2) rfl) rfl rfl)) trivial)) rfl fun _ => ?_
        refine ah ⟨.inr rfl, _, rfl, ((decide ((0 : Int) ≤ iv.i.n)) && (decide (iv.i.n < 4))), _, (fT (I) U), (HS.forget z), rfl, (by rw [hgood.1]; first | exact (dx hal hgood.2 (by omega) (by omega) (by omega) (by omega)).symm | (unfold gK; (repeat' split) <;> first | omega | rfl | (rw [Bool.eq_iff_iff] <;> simp)))⟩
       ·
        have b2 := ap
        try simp only [BS] at b2
        refine wR 1 [] 148 150 [] [(148, (.bool (iv.i.op == 35)))] trivial rfl fun _ => ?_
        refine am 1 1 (v := (iv.i.op == 35)) rfl rfl rfl rfl (fun b4 => ?_) (fun b4 => ?_)
        ·
         try simp only [BS] at b4
         refine wR 1 [(1, .o (iI iv.i.n)), (5, .o (iI iv.i.n))] 151 158 [4] [(4, (.bool ((decide ((0 : Int) ≤ iv.i.n)) && (decide (iv.i.n < 4)))))] (vA (ql 2 4 (HS.hc z (i := 2) rfl) rfl rfl) (vA (fun (A : (decide ((0 : Int) ≤ iv.i.n)) = true) => (ql 2 4 (HS.hc z (i := 2) rfl) rfl rfl)) trivial)) rfl fun _ => ?_
         refine ah ⟨.inr rfl, _, rfl, ((decide ((0 : Int) ≤ iv.i.n)) && (decide (iv.i.n < 4))), _, (fT (I) U), (HS.forget z), rfl, (by rw [hgood.1]; first | exact (dx hal hgood.2 (by omega) (by omega) (by omega) (by omega)).symm | (unfold gK; (repeat' split) <;> first | omega | rfl | (rw [Bool.eq_iff_iff] <;> simp)))⟩
        ·
         try simp only [BS] at b4
         refine wR 1 [] 159 160 [] [(159, (.bool (iv.i.op == 38)))] trivial rfl fun _ => ?_
         refine am 1 3 (v := (iv.i.op == 38)) rfl rfl rfl rfl (fun b5 => ?_) (fun b5 => ?_)
         ·
          try simp only [BS] at b5
          refine wR 1 [(1, .o (iI iv.i.n)), (5, .o (iI iv.i.n)), (7, .o (iI c.params))] 161 170 [4] [(4, (.bool ((decide ((0 : Int) ≤ iv.i.n)) && (decide (iv.i.n < c.params)))))] (vA (ql 2 4 (HS.hc z (i := 2) rfl) rfl rfl) (vA (fun (A : (decide ((0 : Int) ≤ iv.i.n)) = true) => (ql 2 4 (HS.hc z (i := 2) rfl) rfl rfl)) (vA (fun (A : (decide ((0 : Int) ≤ iv.i.n)) = true) => (ql 3 0 (HS.hc z (i := 0) rfl) rfl rfl)) trivial))) rfl fun _ => ?_
          refine ah ⟨.inr rfl, _, rfl, ((decide ((0 : Int) ≤ iv.i.n)) && (decide (iv.i.n < c.params))), _, (fT (I) U), (HS.forget z), rfl, (by rw [hgood.1]; first | exact (dx hal hgood.2 (by omega) (by omega) (by omega) (by omega)).symm | (unfold gK; (repeat' split) <;> first | omega | rfl | (rw [Bool.eq_iff_iff] <;> simp)))⟩
         ·
          try simp only [BS] at b5
          refine wR 1 [] 4 4 [] [(4, (.bool true))] trivial rfl fun _ => ?_
          refine ah ⟨.inr rfl, _, rfl, true, _, (fT (I) U), (HS.forget z), rfl, (by rw [hgood.1]; first | exact (dx hal hgood.2 (by omega) (by omega) (by omega) (by omega)).symm | (unfold gK; (repeat' split) <;> first | omega | rfl | (rw [Bool.eq_iff_iff] <;> simp)))⟩
set_option maxHeartbeats 1000000 in
theorem rinstr_c (ex : FuncId) {O : Option Addr} {T : Nat} (iv : VInT) {ap : Option Addr} {ar : Nat} (c : VFnT) {F : Fz} {H : Heap} {R : List Fp} (hs : HS (.of H []) F H [] R) (c5 : in64 iv.i.op) (c6 : in64 iv.i.a) (c7 : in64 iv.i.b) (c8 : in64 iv.i.c) (c9 : in64 iv.i.n) (V : SR F (.slice O iv.args.length T) iv.args) (dl : in64 c.params) (dn : in64 c.regs) (ds : SR F (.slice ap c.blocks.length ar) c.blocks) (hT : TB 37 tabC F) : C Tryd.prog 1 (KT 60 ex 37 tabC) 71 [(.agg ⟨[(iI iv.i.op), (iI iv.i.a), (iI iv.i.b), (iI iv.i.c), (iI iv.i.n), (.slice O iv.args.length T)]⟩), (.agg ⟨[(iI c.params), (iI c.regs), (.slice ap c.blocks.length ar)]⟩)] H fun v H' => ∃ (r : Bool) (F' : Fz), Fz.le F F' ∧ HS (.of H []) F' H' [] R ∧ v = .bool r ∧ r = eg c.params c.regs iv := by
 refine aL Tryd.func71 rfl rfl ?_
 refine ao 1 rfl ?_
 refine ab ?_
 refine aR (cw hs rfl rfl) rfl rfl ?_
 rintro _ H2 _ ⟨b1, rfl, bj, _⟩
 let b2 : Fp := [(b1, .cells [(iI iv.i.op), (iI iv.i.a), (iI iv.i.b), (iI iv.i.c), (iI iv.i.n), (.slice O iv.args.length T)] none false)]
 have bj : HS _ _ _ [b2] _ := bj
 refine aR (cw bj rfl rfl) rfl rfl ?_
 rintro _ H4 _ ⟨b3, rfl, av, _⟩
 let b4 : Fp := [(b3, .cells [(iI c.params), (iI c.regs), (.slice ap c.blocks.length ar)] none false)]
 have av : HS _ _ _ [_, b4] _ := av
 refine wa (.bool false) rfl rfl rfl ?_
 refine ai 2 rfl ?_
 refine ab ?_
 let b5 : Value := (.agg ⟨[(iI iv.i.op), (iI iv.i.a), (iI iv.i.b), (iI iv.i.c), (iI iv.i.n)]⟩)
 refine wRo 2 0 [(1, .o b5)] 10 11 [] [(11, b5)] (vA (qn 45 0 5 (HS.hc av (i := 0) rfl) rfl rfl rfl rfl) trivial) rfl fun _ => ?_
 refine aR (bK av rfl) rfl rfl ?_
 rintro _ H7 _ ⟨b6, rfl, bl, _⟩
 have bl : HS _ _ _ [_, _, [(b6, .cells [(iI 0), (iI 0), (iI 0), (iI 0), (iI 0)] none false)]] _ := bl
 refine aU (aG (q := 2) bl rfl rfl rfl rfl rfl rfl rfl rfl rfl) rfl ?_
 rintro _ H8 _ ⟨Z, _⟩
 let b7 : Fp := [(b6, .cells [(iI iv.i.op), (iI iv.i.a), (iI iv.i.b), (iI iv.i.c), (iI iv.i.n)] none false)]
 have Z : HS _ _ _ [_, _, b7] _ := Z
 refine ai 3 rfl ?_
 refine wR 1 [(1, .o (iI iv.i.op)), (2, .o (.bool (alV iv.i.op))), (6, .o (iI iv.i.op)), (10, .o (.slice O iv.args.length T)), (17, .o (.slice O iv.args.length T))] 12 32 [] [(32, (.bool (((!(alV iv.i.op)) || ((iv.i.op != 6) && (decide ((0 : Int) < (iv.args.length : Int))))) || (decide ((6 : Int) < (iv.args.length : Int))))))] (vA (ql 3 0 (HS.hc Z (i := 2) rfl) rfl rfl) (vA (m1.ralw_c_q ex iv.i.op H8) (vA (fun (A : (!(alV iv.i.op)) = false) => (ql 3 0 (HS.hc Z (i := 2) rfl) rfl rfl)) (vA (fun (A : (iv.i.op != 6) = true) (g2 : (!(alV iv.i.op)) = false) => (ql 25 5 (HS.hc Z (i := 0) rfl) rfl rfl)) (vA (fun (A : ((!(alV iv.i.op)) || ((iv.i.op != 6) && (decide ((0 : Int) < (iv.args.length : Int))))) = false) => (ql 25 5 (HS.hc Z (i := 0) rfl) rfl rfl)) trivial))))) rfl fun _ => ?_
 refine am 1 3 (v := (((!(alV iv.i.op)) || ((iv.i.op != 6) && (decide ((0 : Int) < (iv.args.length : Int))))) || (decide ((6 : Int) < (iv.args.length : Int))))) rfl rfl rfl rfl (fun aj => ?_) (fun aj => ?_)
 ·
  try simp only [BS] at aj
  have hbad := aj
  refine wR 1 [] 4 4 [] [(4, (.bool false))] trivial rfl fun _ => ?_
  refine ah ⟨.inr rfl, _, rfl, false, _, fR, (HS.forget Z), rfl, (by exact vin_bad2 hbad)⟩
 ·
  try simp only [BS] at aj
  have hal : alV iv.i.op = true := (aj).1.1
  have h6 : iv.i.op = 6 ∨ iv.args.length = 0 := by omega
  have b0 : iv.args.length ≤ 6 := by omega
  refine wR 2 [] 1 0 [6] [(6, (iI 0))] trivial rfl fun _ => ?_
  refine aC (fun (mm : Nat) f H' => ∃ (k : Nat) (F' : Fz), Fz.le F F' ∧ HS (Base.of H []) F' H' [b2, b4, b7] R ∧ aT f [(2, (.pointer (some ⟨b1, 0, none⟩))), (3, (.pointer (some ⟨b3, 0, none⟩))), (5, (.pointer (some ⟨b6, 0, none⟩))), (6, (iI (k : Int)))] ∧ mm = iv.args.length - k ∧ (k ≤ iv.args.length) ∧ (∀ j, j < k → aJ c.regs (iv.args.getD j default) = true)) _ ⟨0, _, fR, Z, ⟨rfl, rfl, rfl, rfl, trivial⟩, rfl, (by omega), (by exact cP)⟩ ?_
  rintro dt ea d2 ⟨k, dv, I, J, bb, rfl, hk, ha⟩ ch
  refine aH _ bb (fun _ => ?_)
  clear bb
  replace hT := hT.mono I
  replace V := V.mono I
  refine ao 2 rfl ?_
  refine wR 1 [(2, .o (.slice O iv.args.length T))] 33 37 [] [(37, (.bool (decide ((k : Int) < (iv.args.length : Int)))))] (vA (ql 25 5 (HS.hc J (i := 0) rfl) rfl rfl) trivial) rfl fun _ => ?_
  refine am 4 5 (v := (decide ((k : Int) < (iv.args.length : Int)))) rfl rfl rfl rfl (fun a1 => ?_) (fun a1 => ?_)
  ·
   try simp only [BS] at a1
   obtain ⟨dk, aq⟩ := Sv.view (SR.sv V J)
   have eb := fI (aq k)
   refine wRD 1 [(1, .o (.slice O iv.args.length T)), (4, .o (iI (iv.args.getD k 0))), (8, .o (.slice O iv.args.length T)), (11, .o (iI (iv.args.getD k 0))), (13, .o (iI c.regs))] 40 55 [] [(55, (.bool ((decide ((iv.args.getD k 0) < 0)) || (decide (c.regs ≤ (iv.args.getD k 0))))))] (vA (ql 25 5 (hc0 (HS.hc J (i := 0) rfl)) rfl rfl) (vA (Sv.ix (j := (k : Int)) (SR.sv V J) (by omega) (by omega)) (vA (ql 3 0 (hc0 (vI (aq k) (by omega))) rfl rfl) (vA (fun (A : (decide ((iv.args.getD k 0) < 0)) = false) => (ql 25 5 (hc0 (HS.hc J (i := 0) rfl)) rfl rfl)) (vA (fun (A : (decide ((iv.args.getD k 0) < 0)) = false) => (Sv.ix (j := (k : Int)) (SR.sv V J) (by (try simp only [BS] at A); omega) (by (try simp only [BS] at A); omega))) (vA (fun (A : (decide ((iv.args.getD k 0) < 0)) = false) => (ql 3 0 (hc0 (vI (aq k) (by (try simp only [BS] at A); omega))) rfl rfl)) (vA (fun (A : (decide ((iv.args.getD k 0) < 0)) = false) => (ql 3 1 (hc0 (HS.hc J (i := 1) rfl)) rfl rfl)) trivial))))))) rfl rfl fun _ => ?_
   refine am 1 2 (v := ((decide ((iv.args.getD k 0) < 0)) || (decide (c.regs ≤ (iv.args.getD k 0))))) rfl rfl rfl rfl (fun a2 => ?_) (fun a2 => ?_)
   ·
    try simp only [BS] at a2
    refine wR 1 [] 4 4 [] [(4, (.bool false))] trivial rfl fun _ => ?_
    refine ah ⟨.inr rfl, _, rfl, false, _, (I), (HS.forget J), rfl, (by exact vin_no (cL (k := k) (by omega) (gF.2 (show ¬ (0 ≤ iv.args.getD k 0 ∧ iv.args.getD k 0 < c.regs) by omega))))⟩
   ·
    try simp only [BS] at a2
    refine wR 1 [] 38 39 [6] [(6, (iI ((k : Int) + 1)))] (vA (vi (n := (k : Int) + 1) (by omega)) trivial) rfl fun _ => ?_
    refine ch _ _ _ ?_ ⟨k + 1, _, (I), J, ⟨rfl, rfl, rfl, rfl, trivial⟩, rfl, (by omega), (by exact b8 ha (bp.2 (show 0 ≤ iv.args.getD k 0 ∧ iv.args.getD k 0 < c.regs by omega)))⟩
    omega
  ·
   try simp only [BS] at a1
   have hall := dC ha (by omega)
   refine ab ?_
   refine wRo 2 0 [(1, .o (iI iv.i.op))] 56 57 [] [(57, (iI iv.i.op))] (vA (ql 3 0 (HS.hc J (i := 2) rfl) rfl rfl) trivial) rfl fun _ => ?_
   refine aD (az rfl rfl rfl) rfl rfl (rinfo_c ex iv.i.op (HS.call J) (by omega) hT) ?_
   rintro _ a0 ⟨ec, d1, U, z, rfl, ci, co, rfl⟩
   replace z := HS.back J rfl z
   have z : HS _ _ _ [_, _, _] _ := z
   refine wRo 2 3 [] 59 59 [7] [(7, (iI (br iv.i.op).form))] trivial rfl fun _ => ?_
   refine ai 2 rfl ?_
   refine wR 2 [] 60 61 [8] [(8, (.bool ((br iv.i.op).form != 1)))] trivial rfl fun _ => ?_
   refine wR 3 [] 62 71 [9] [(9, (.bool ((((br iv.i.op).form == 3) || ((br iv.i.op).form == 4)) || ((br iv.i.op).form == 7))))] trivial rfl fun _ => ?_
   refine wR 1 [(2, .o (iI iv.i.a)), (4, .o (iI c.regs)), (5, .o (.bool (dq ((br iv.i.op).form != 1) iv.i.a c.regs))), (10, .o (iI iv.i.b)), (12, .o (iI c.regs)), (13, .o (.bool (dq ((((br iv.i.op).form == 3) || ((br iv.i.op).form == 4)) || ((br iv.i.op).form == 7)) iv.i.b c.regs))), (20, .o (iI iv.i.c)), (22, .o (iI c.regs)), (23, .o (.bool (dq ((br iv.i.op).form == 4) iv.i.c c.regs)))] 72 97 [] [(97, (.bool (((!(dq ((br iv.i.op).form != 1) iv.i.a c.regs)) || (!(dq ((((br iv.i.op).form == 3) || ((br iv.i.op).form == 4)) || ((br iv.i.op).form == 7)) iv.i.b c.regs))) || (!(dq ((br iv.i.op).form == 4) iv.i.c c.regs)))))] (vA (ql 3 1 (HS.hc z (i := 2) rfl) rfl rfl) (vA (ql 3 1 (HS.hc z (i := 1) rfl) rfl rfl) (vA (ff ex ((br iv.i.op).form != 1) iv.i.a c.regs a0 (by omega) (by omega)) (vA (fun (A : (!(dq ((br iv.i.op).form != 1) iv.i.a c.regs)) = false) => (ql 3 2 (HS.hc z (i := 2) rfl) rfl rfl)) (vA (fun (A : (!(dq ((br iv.i.op).form != 1) iv.i.a c.regs)) = false) => (ql 3 1 (HS.hc z (i := 1) rfl) rfl rfl)) (vA (fun (A : (!(dq ((br iv.i.op).form != 1) iv.i.a c.regs)) = false) => (ff ex ((((br iv.i.op).form == 3) || ((br iv.i.op).form == 4)) || ((br iv.i.op).form == 7)) iv.i.b c.regs a0 (by (try simp only [BS] at A); omega) (by (try simp only [BS] at A); omega))) (vA (fun (A : ((!(dq ((br iv.i.op).form != 1) iv.i.a c.regs)) || (!(dq ((((br iv.i.op).form == 3) || ((br iv.i.op).form == 4)) || ((br iv.i.op).form == 7)) iv.i.b c.regs))) = false) => (ql 3 3 (HS.hc z (i := 2) rfl) rfl rfl)) (vA (fun (A : ((!(dq ((br iv.i.op).form != 1) iv.i.a c.regs)) || (!(dq ((((br iv.i.op).form == 3) || ((br iv.i.op).form == 4)) || ((br iv.i.op).form == 7)) iv.i.b c.regs))) = false) => (ql 3 1 (HS.hc z (i := 1) rfl) rfl rfl)) (vA (fun (A : ((!(dq ((br iv.i.op).form != 1) iv.i.a c.regs)) || (!(dq ((((br iv.i.op).form == 3) || ((br iv.i.op).form == 4)) || ((br iv.i.op).form == 7)) iv.i.b c.regs))) = false) => (ff ex ((br iv.i.op).form == 4) iv.i.c c.regs a0 (by (try simp only [BS] at A); omega) (by (try simp only [BS] at A); omega))) trivial))))))))) rfl fun _ => ?_
   refine am 1 3 (v := (((!(dq ((br iv.i.op).form != 1) iv.i.a c.regs)) || (!(dq ((((br iv.i.op).form == 3) || ((br iv.i.op).form == 4)) || ((br iv.i.op).form == 7)) iv.i.b c.regs))) || (!(dq ((br iv.i.op).form == 4) iv.i.c c.regs)))) rfl rfl rfl rfl (fun ad => ?_) (fun ad => ?_)
   ·
    have a3 := ad
    try simp only [BS] at a3
    have c4 := ad
    refine wR 1 [] 4 4 [] [(4, (.bool false))] trivial rfl fun _ => ?_
    refine ah ⟨.inr rfl, _, rfl, false, _, (fT (I) U), (HS.forget z), rfl, (by exact vin_rbad hal h6 b0 hall c4)⟩
   ·
    have a3 := ad
    try simp only [BS] at a3
    have hgood := vin_rgood (params := c.params) hal h6 b0 hall ad
    refine wR 3 [(1, .o (iI iv.i.op))] 98 99 [] [(99, (iI iv.i.op))] (vA (ql 3 0 (HS.hc z (i := 2) rfl) rfl rfl) trivial) rfl fun _ => ?_
    refine wR 1 [] 100 101 [] [(100, (.bool (iv.i.op == 13)))] trivial rfl fun _ => ?_
    refine am 1 1 (v := (iv.i.op == 13)) rfl rfl rfl rfl (fun a4 => ?_) (fun a4 => ?_)
    ·
     try simp only [BS] at a4
     refine wR 1 [] 4 4 [] [(4, (.bool true))] trivial rfl fun _ => ?_
     refine ah ⟨.inr rfl, _, rfl, true, _, (fT (I) U), (HS.forget z), rfl, (by rw [hgood] <;> (first | exact (dx hal hgood.2 (by omega) (by omega) (by omega) (by omega)).symm | (unfold gK; (repeat' split) <;> first | omega | rfl | (rw [Bool.eq_iff_iff] <;> simp))))⟩
    ·
     try simp only [BS] at a4
     refine wR 1 [] 102 103 [] [(102, (.bool (iv.i.op == 33)))] trivial rfl fun _ => ?_
     refine am 1 1 (v := (iv.i.op == 33)) rfl rfl rfl rfl (fun a5 => ?_) (fun a5 => ?_)
     ·
      try simp only [BS] at a5
      refine wR 1 [(1, .o (iI iv.i.n)), (5, .o (iI iv.i.n))] 104 111 [4] [(4, (.bool ((decide ((-4194304 : Int) ≤ iv.i.n)) && (decide (iv.i.n < 4194304)))))] (vA (ql 2 4 (HS.hc z (i := 2) rfl) rfl rfl) (vA (fun (A : (decide ((-4194304 : Int) ≤ iv.i.n)) = true) => (ql 2 4 (HS.hc z (i := 2) rfl) rfl rfl)) trivial)) rfl fun _ => ?_
      refine ah ⟨.inr rfl, _, rfl, ((decide ((-4194304 : Int) ≤ iv.i.n)) && (decide (iv.i.n < 4194304))), _, (fT (I) U), (HS.forget z), rfl, (by rw [hgood] <;> (first | exact (dx hal hgood.2 (by omega) (by omega) (by omega) (by omega)).symm | (unfold gK; (repeat' split) <;> first | omega | rfl | (rw [Bool.eq_iff_iff] <;> simp))))⟩
     ·
      try simp only [BS] at a5
      refine wR 1 [] 112 113 [] [(112, (.bool (iv.i.op == 6)))] trivial rfl fun _ => ?_
      refine am 1 2 (v := (iv.i.op == 6)) rfl rfl rfl rfl (fun a6 => ?_) (fun a6 => ?_)
      ·
       try simp only [BS] at a6
       refine wR 1 [(1, .o (iI iv.i.n)), (5, .o (iI iv.i.n))] 114 121 [4] [(4, (.bool ((decide ((0 : Int) ≤ iv.i.n)) && (decide (iv.i.n < 8)))))] (vA (ql 2 4 (HS.hc z (i := 2) rfl) rfl rfl) (vA (fun (A : (decide ((0 : Int) ≤ iv.i.n)) = true) => (ql 2 4 (HS.hc z (i := 2) rfl) rfl rfl)) trivial)) rfl fun _ => ?_
       refine ah ⟨.inr rfl, _, rfl, ((decide ((0 : Int) ≤ iv.i.n)) && (decide (iv.i.n < 8))), _, (fT (I) U), (HS.forget z), rfl, (by rw [hgood] <;> (first | exact (dx hal hgood.2 (by omega) (by omega) (by omega) (by omega)).symm | (unfold gK; (repeat' split) <;> first | omega | rfl | (rw [Bool.eq_iff_iff] <;> simp))))⟩
      ·
       try simp only [BS] at a6
       refine wR 1 [] 122 123 [] [(122, (.bool (iv.i.op == 34)))] trivial rfl fun _ => ?_
       refine am 1 0 (v := (iv.i.op == 34)) rfl rfl rfl rfl (fun ag => ?_) (fun ag => ?_)
       ·
        have a7 := ag
        try simp only [BS] at a7
        refine bh 1 (v := (iv.i.op == 34)) rfl ag rfl rfl ?_
        refine wR 1 [(1, .o (iI iv.i.n)), (5, .o (iI iv.i.n))] 125 132 [4] [(4, (.bool ((decide ((0 : Int) ≤ iv.i.n)) && (decide (iv.i.n < 4)))))] (vA (ql 2 4 (HS.hc z (i := 2) rfl) rfl rfl) (vA (fun (A : (decide ((0 : Int) ≤ iv.i.n)) = true) => (ql 2 4 (HS.hc z (i := 2) rfl) rfl rfl)) trivial)) rfl fun _ => ?_
        refine ah ⟨.inr rfl, _, rfl, ((decide ((0 : Int) ≤ iv.i.n)) && (decide (iv.i.n < 4))), _, (fT (I) U), (HS.forget z), rfl, (by rw [hgood] <;> (first | exact (dx hal hgood.2 (by omega) (by omega) (by omega) (by omega)).symm | (unfold gK; (repeat' split) <;> first | omega | rfl | (rw [Bool.eq_iff_iff] <;> simp))))⟩
       ·
        have a7 := ag
        try simp only [BS] at a7
        refine wR 1 [] 122 124 [] [(122, (.bool (iv.i.op == 35)))] trivial rfl fun _ => ?_
        refine am 1 1 (v := (iv.i.op == 35)) rfl rfl rfl rfl (fun a8 => ?_) (fun a8 => ?_)
        ·
         try simp only [BS] at a8
         refine wR 1 [(1, .o (iI iv.i.n)), (5, .o (iI iv.i.n))] 125 132 [4] [(4, (.bool ((decide ((0 : Int) ≤ iv.i.n)) && (decide (iv.i.n < 4)))))] (vA (ql 2 4 (HS.hc z (i := 2) rfl) rfl rfl) (vA (fun (A : (decide ((0 : Int) ≤ iv.i.n)) = true) => (ql 2 4 (HS.hc z (i := 2) rfl) rfl rfl)) trivial)) rfl fun _ => ?_
         refine ah ⟨.inr rfl, _, rfl, ((decide ((0 : Int) ≤ iv.i.n)) && (decide (iv.i.n < 4))), _, (fT (I) U), (HS.forget z), rfl, (by rw [hgood] <;> (first | exact (dx hal hgood.2 (by omega) (by omega) (by omega) (by omega)).symm | (unfold gK; (repeat' split) <;> first | omega | rfl | (rw [Bool.eq_iff_iff] <;> simp))))⟩
        ·
         try simp only [BS] at a8
         refine wR 1 [] 133 134 [] [(133, (.bool (iv.i.op == 38)))] trivial rfl fun _ => ?_
         refine am 1 3 (v := (iv.i.op == 38)) rfl rfl rfl rfl (fun a9 => ?_) (fun a9 => ?_)
         ·
          try simp only [BS] at a9
          refine wR 1 [(1, .o (iI iv.i.n)), (5, .o (iI iv.i.n)), (7, .o (iI c.params))] 135 144 [4] [(4, (.bool ((decide ((0 : Int) ≤ iv.i.n)) && (decide (iv.i.n < c.params)))))] (vA (ql 2 4 (HS.hc z (i := 2) rfl) rfl rfl) (vA (fun (A : (decide ((0 : Int) ≤ iv.i.n)) = true) => (ql 2 4 (HS.hc z (i := 2) rfl) rfl rfl)) (vA (fun (A : (decide ((0 : Int) ≤ iv.i.n)) = true) => (ql 3 0 (HS.hc z (i := 1) rfl) rfl rfl)) trivial))) rfl fun _ => ?_
          refine ah ⟨.inr rfl, _, rfl, ((decide ((0 : Int) ≤ iv.i.n)) && (decide (iv.i.n < c.params))), _, (fT (I) U), (HS.forget z), rfl, (by rw [hgood] <;> (first | exact (dx hal hgood.2 (by omega) (by omega) (by omega) (by omega)).symm | (unfold gK; (repeat' split) <;> first | omega | rfl | (rw [Bool.eq_iff_iff] <;> simp))))⟩
         ·
          try simp only [BS] at a9
          refine wR 1 [(1, .o (iI iv.i.n))] 145 147 [4] [(4, (.bool (iv.i.n == 0)))] (vA (ql 2 4 (HS.hc z (i := 2) rfl) rfl rfl) trivial) rfl fun _ => ?_
          refine ah ⟨.inr rfl, _, rfl, (iv.i.n == 0), _, (fT (I) U), (HS.forget z), rfl, (by rw [hgood] <;> (first | exact (dx hal hgood.2 (by omega) (by omega) (by omega) (by omega)).symm | (unfold gK; (repeat' split) <;> first | omega | rfl | (rw [Bool.eq_iff_iff] <;> simp))))⟩
theorem rEnd_c (ex : FuncId) {O : Option Addr} {T : Nat} (b : BlkT) {I : Option Addr} {J : Nat} (c : VFnT) {F : Fz} {H : Heap} {R : List Fp} (hs : HS (.of H []) F H [] R) (aq : SR F (.slice O b.ins.length T) b.ins) (ar : in64 b.fin) (av : in64 b.reg) (a0 : in64 b.tgt) (a1 : in64 b.els) (a2 : in64 c.params) (a3 : in64 c.regs) (a4 : SR F (.slice I c.blocks.length J) c.blocks) (hT : TB 37 tabC F) : C Tryd.prog 1 (KT 60 ex 37 tabC) 70 [(.agg ⟨[(.slice O b.ins.length T), (iI b.fin), (iI b.reg), (iI b.tgt), (iI b.els)]⟩), (.agg ⟨[(iI c.params), (iI c.regs), (.slice I c.blocks.length J)]⟩)] H fun v H' => ∃ (r : Bool) (F' : Fz), Fz.le F F' ∧ HS (.of H []) F' H' [] R ∧ v = .bool r ∧ r = fQ (c.blocks.length : Int) c.regs b := by
 refine aL Tryd.func70 rfl rfl ?_
 refine ao 1 rfl ?_
 refine ab ?_
 refine aR (cw hs rfl rfl) rfl rfl ?_
 rintro _ H2 _ ⟨b1, rfl, ad, _⟩
 have ad : HS _ _ _ [[(b1, .cells [(.slice O b.ins.length T), (iI b.fin), (iI b.reg), (iI b.tgt), (iI b.els)] none false)]] _ := ad
 refine aR (cw ad rfl rfl) rfl rfl ?_
 rintro _ H4 _ ⟨b3, rfl, z, _⟩
 have z : HS _ _ _ [_, [(b3, .cells [(iI c.params), (iI c.regs), (.slice I c.blocks.length J)] none false)]] _ := z
 refine wa (.bool false) rfl rfl rfl ?_
 refine ai 2 rfl ?_
 refine wR 2 [(1, .o (.slice I c.blocks.length J))] 9 11 [5] [(5, (iI (c.blocks.length : Int)))] (vA (ql 22 2 (HS.hc z (i := 1) rfl) rfl rfl) trivial) rfl fun _ => ?_
 refine wRD 3 [(1, .o (iI b.tgt)), (5, .o (iI b.tgt)), (10, .o (iI b.els)), (14, .o (iI b.els)), (19, .o (iI b.reg)), (23, .o (iI b.reg)), (25, .o (iI c.regs))] 12 39 [6, 7, 8] [(6, (.bool ((decide ((0 : Int) ≤ b.tgt)) && (decide (b.tgt < (c.blocks.length : Int)))))), (7, (.bool ((decide ((0 : Int) ≤ b.els)) && (decide (b.els < (c.blocks.length : Int)))))), (8, (.bool ((decide ((0 : Int) ≤ b.reg)) && (decide (b.reg < c.regs)))))] (vA (ql 3 3 (hc0 (HS.hc z (i := 0) rfl)) rfl rfl) (vA (fun (A : (decide ((0 : Int) ≤ b.tgt)) = true) => (ql 3 3 (hc0 (HS.hc z (i := 0) rfl)) rfl rfl)) (vA (ql 3 4 (hc0 (HS.hc z (i := 0) rfl)) rfl rfl) (vA (fun (A : (decide ((0 : Int) ≤ b.els)) = true) => (ql 3 4 (hc0 (HS.hc z (i := 0) rfl)) rfl rfl)) (vA (ql 3 2 (hc0 (HS.hc z (i := 0) rfl)) rfl rfl) (vA (fun (A : (decide ((0 : Int) ≤ b.reg)) = true) => (ql 3 2 (hc0 (HS.hc z (i := 0) rfl)) rfl rfl)) (vA (fun (A : (decide ((0 : Int) ≤ b.reg)) = true) => (ql 3 1 (hc0 (HS.hc z (i := 1) rfl)) rfl rfl)) trivial))))))) rfl rfl fun _ => ?_
 refine wR 3 [(1, .o (iI b.fin))] 40 41 [] [(41, (iI b.fin))] (vA (ql 3 1 (HS.hc z (i := 0) rfl) rfl rfl) trivial) rfl fun _ => ?_
 refine wR 1 [] 42 43 [] [(42, (.bool (b.fin == 1)))] trivial rfl fun _ => ?_
 refine am 1 1 (v := (b.fin == 1)) rfl rfl rfl rfl (fun c9 => ?_) (fun c9 => ?_)
 ·
  try simp only [BS] at c9
  refine wR 1 [(3, .o (iI b.els)), (8, .o (iI b.reg))] 44 54 [4] [(4, (.bool ((((decide ((0 : Int) ≤ b.tgt)) && (decide (b.tgt < (c.blocks.length : Int)))) && (b.els == 0)) && (b.reg == 0))))] (vA (fun (A : ((decide ((0 : Int) ≤ b.tgt)) && (decide (b.tgt < (c.blocks.length : Int)))) = true) => (ql 3 4 (HS.hc z (i := 0) rfl) rfl rfl)) (vA (fun (A : (((decide ((0 : Int) ≤ b.tgt)) && (decide (b.tgt < (c.blocks.length : Int)))) && (b.els == 0)) = true) => (ql 3 2 (HS.hc z (i := 0) rfl) rfl rfl)) trivial)) rfl fun _ => ?_
  refine ah ⟨.inr rfl, _, rfl, ((((decide ((0 : Int) ≤ b.tgt)) && (decide (b.tgt < (c.blocks.length : Int)))) && (b.els == 0)) && (b.reg == 0)), _, fR, (HS.forget z), rfl, (by refine Bool.eq_iff_iff.2 (Iff.trans ?_ bE.symm); first | omega | (simp <;> omega))⟩
 ·
  try simp only [BS] at c9
  refine wR 1 [] 55 56 [] [(55, (.bool (b.fin == 2)))] trivial rfl fun _ => ?_
  refine am 1 1 (v := (b.fin == 2)) rfl rfl rfl rfl (fun U => ?_) (fun U => ?_)
  ·
   try simp only [BS] at U
   refine wR 1 [] 57 63 [4] [(4, (.bool ((((decide ((0 : Int) ≤ b.tgt)) && (decide (b.tgt < (c.blocks.length : Int)))) && ((decide ((0 : Int) ≤ b.els)) && (decide (b.els < (c.blocks.length : Int))))) && ((decide ((0 : Int) ≤ b.reg)) && (decide (b.reg < c.regs))))))] trivial rfl fun _ => ?_
   refine ah ⟨.inr rfl, _, rfl, ((((decide ((0 : Int) ≤ b.tgt)) && (decide (b.tgt < (c.blocks.length : Int)))) && ((decide ((0 : Int) ≤ b.els)) && (decide (b.els < (c.blocks.length : Int))))) && ((decide ((0 : Int) ≤ b.reg)) && (decide (b.reg < c.regs)))), _, fR, (HS.forget z), rfl, (by refine Bool.eq_iff_iff.2 (Iff.trans ?_ bE.symm); first | omega | (simp <;> omega))⟩
  ·
   try simp only [BS] at U
   refine wR 1 [] 64 65 [] [(64, (.bool (b.fin == 3)))] trivial rfl fun _ => ?_
   refine am 1 1 (v := (b.fin == 3)) rfl rfl rfl rfl (fun V => ?_) (fun V => ?_)
   ·
    try simp only [BS] at V
    refine wR 1 [(3, .o (iI b.tgt)), (8, .o (iI b.els))] 66 76 [4] [(4, (.bool ((((decide ((0 : Int) ≤ b.reg)) && (decide (b.reg < c.regs))) && (b.tgt == 0)) && (b.els == 0))))] (vA (fun (A : ((decide ((0 : Int) ≤ b.reg)) && (decide (b.reg < c.regs))) = true) => (ql 3 3 (HS.hc z (i := 0) rfl) rfl rfl)) (vA (fun (A : (((decide ((0 : Int) ≤ b.reg)) && (decide (b.reg < c.regs))) && (b.tgt == 0)) = true) => (ql 3 4 (HS.hc z (i := 0) rfl) rfl rfl)) trivial)) rfl fun _ => ?_
    refine ah ⟨.inr rfl, _, rfl, ((((decide ((0 : Int) ≤ b.reg)) && (decide (b.reg < c.regs))) && (b.tgt == 0)) && (b.els == 0)), _, fR, (HS.forget z), rfl, (by refine Bool.eq_iff_iff.2 (Iff.trans ?_ bE.symm); first | omega | (simp <;> omega))⟩
   ·
    try simp only [BS] at V
    refine wR 1 [] 77 78 [] [(77, (.bool (b.fin == 4)))] trivial rfl fun _ => ?_
    refine am 1 3 (v := (b.fin == 4)) rfl rfl rfl rfl (fun Z => ?_) (fun Z => ?_)
    ·
     try simp only [BS] at Z
     refine wR 1 [(1, .o (iI b.tgt)), (5, .o (iI b.tgt)), (10, .o (iI b.els)), (15, .o (iI b.reg))] 79 96 [4] [(4, (.bool ((((decide ((1 : Int) ≤ b.tgt)) && (decide (b.tgt < 33554432))) && (b.els == 0)) && (b.reg == 0))))] (vA (ql 3 3 (HS.hc z (i := 0) rfl) rfl rfl) (vA (fun (A : (decide ((1 : Int) ≤ b.tgt)) = true) => (ql 3 3 (HS.hc z (i := 0) rfl) rfl rfl)) (vA (fun (A : ((decide ((1 : Int) ≤ b.tgt)) && (decide (b.tgt < 33554432))) = true) => (ql 3 4 (HS.hc z (i := 0) rfl) rfl rfl)) (vA (fun (A : (((decide ((1 : Int) ≤ b.tgt)) && (decide (b.tgt < 33554432))) && (b.els == 0)) = true) => (ql 3 2 (HS.hc z (i := 0) rfl) rfl rfl)) trivial)))) rfl fun _ => ?_
     refine ah ⟨.inr rfl, _, rfl, ((((decide ((1 : Int) ≤ b.tgt)) && (decide (b.tgt < 33554432))) && (b.els == 0)) && (b.reg == 0)), _, fR, (HS.forget z), rfl, (by refine Bool.eq_iff_iff.2 (Iff.trans ?_ bE.symm); first | omega | (simp <;> omega))⟩
    ·
     try simp only [BS] at Z
     refine wR 1 [] 4 4 [] [(4, (.bool false))] trivial rfl fun _ => ?_
     refine ah ⟨.inr rfl, _, rfl, false, _, fR, (HS.forget z), rfl, (by refine Bool.eq_iff_iff.2 (Iff.trans ?_ bE.symm); first | omega | (simp <;> omega))⟩
set_option maxHeartbeats 1000000 in
theorem valid_c (ex : FuncId) {I : Option Addr} {O : Nat} (c : VFnT) {F : Fz} {H : Heap} {R : List Fp} (hs : HS (.of H []) F H [] R) (eb : in64 c.params) (ec : in64 c.regs) (ad : SR F (.slice I c.blocks.length O) c.blocks) (hT : TB 37 tabC F) (hv : ∀ j, (c.blocks.getD j default).ins.length ≤ 9223372036854775807) : C Tryd.prog 1 (KT 60 ex 37 tabC) 39 [(.agg ⟨[(iI c.params), (iI c.regs), (.slice I c.blocks.length O)]⟩)] H fun v H' => ∃ (r : Bool) (F' : Fz), Fz.le F F' ∧ HS (.of H []) F' H' [] R ∧ v = .bool r ∧ r = eL c := by
 refine aL Tryd.func39 rfl rfl ?_
 refine ao 1 rfl ?_
 refine ab ?_
 refine aR (cw hs rfl rfl) rfl rfl ?_
 rintro _ H2 _ ⟨b1, rfl, V, _⟩
 let ci : Fp := [(b1, .cells [(iI c.params), (iI c.regs), (.slice I c.blocks.length O)] none false)]
 have V : HS _ _ _ [ci] _ := V
 refine wa (.bool false) rfl rfl rfl ?_
 refine ai 3 rfl ?_
 refine wR 1 [(1, .o (iI c.params)), (5, .o (iI c.params)), (10, .o (iI c.regs)), (15, .o (iI c.regs)), (20, .o (.slice I c.blocks.length O)), (26, .o (.slice I c.blocks.length O))] 10 39 [] [(39, (.bool ((((((decide (c.params < 0)) || (decide ((6 : Int) < c.params))) || (decide (c.regs < 0))) || (decide ((3000 : Int) < c.regs))) || (decide ((c.blocks.length : Int) < 1))) || (decide ((1000 : Int) < (c.blocks.length : Int))))))] (vA (ql 3 0 (HS.hc V (i := 0) rfl) rfl rfl) (vA (fun (U : (decide (c.params < 0)) = false) => (ql 3 0 (HS.hc V (i := 0) rfl) rfl rfl)) (vA (fun (U : ((decide (c.params < 0)) || (decide ((6 : Int) < c.params))) = false) => (ql 3 1 (HS.hc V (i := 0) rfl) rfl rfl)) (vA (fun (U : (((decide (c.params < 0)) || (decide ((6 : Int) < c.params))) || (decide (c.regs < 0))) = false) => (ql 3 1 (HS.hc V (i := 0) rfl) rfl rfl)) (vA (fun (U : ((((decide (c.params < 0)) || (decide ((6 : Int) < c.params))) || (decide (c.regs < 0))) || (decide ((3000 : Int) < c.regs))) = false) => (ql 22 2 (HS.hc V (i := 0) rfl) rfl rfl)) (vA (fun (U : (((((decide (c.params < 0)) || (decide ((6 : Int) < c.params))) || (decide (c.regs < 0))) || (decide ((3000 : Int) < c.regs))) || (decide ((c.blocks.length : Int) < 1))) = false) => (ql 22 2 (HS.hc V (i := 0) rfl) rfl rfl)) trivial)))))) rfl fun _ => ?_
 refine am 1 2 (v := ((((((decide (c.params < 0)) || (decide ((6 : Int) < c.params))) || (decide (c.regs < 0))) || (decide ((3000 : Int) < c.regs))) || (decide ((c.blocks.length : Int) < 1))) || (decide ((1000 : Int) < (c.blocks.length : Int))))) rfl rfl rfl rfl (fun c4 => ?_) (fun c4 => ?_)
 ·
  try simp only [BS] at c4
  refine wR 1 [] 2 2 [] [(2, (.bool false))] trivial rfl fun _ => ?_
  refine ah ⟨.inr rfl, _, rfl, false, _, fR, (HS.forget V), rfl, (by exact val_lim (by omega))⟩
 ·
  try simp only [BS] at c4
  have hlim : 0 ≤ c.params ∧ c.params ≤ 6 ∧ 0 ≤ c.regs ∧ c.regs ≤ 3000 ∧ 1 ≤ c.blocks.length ∧ c.blocks.length ≤ 1000 := by omega
  refine wR 2 [] 40 40 [3] [(3, (.func (.func 67) #[] #[(.pointer (some ⟨b1, 0, none⟩))]))] trivial rfl fun _ => ?_
  refine wR 3 [] 41 41 [4] [(4, (.func (.func 68) #[] #[(.pointer (some ⟨b1, 0, none⟩))]))] trivial rfl fun _ => ?_
  refine wR 2 [(1, .o (.slice I c.blocks.length O))] 42 45 [] [(43, (.slice I c.blocks.length O)), (44, (iI (c.blocks.length : Int))), (45, (iI 0))] (vA (ql 22 2 (HS.hc V (i := 0) rfl) rfl rfl) trivial) rfl fun _ => ?_
  refine aC (fun (mm : Nat) f H' => ∃ (k : Nat) (F' : Fz), Fz.le F F' ∧ HS (Base.of H []) F' H' [ci] R ∧ aT f [(1, (.pointer (some ⟨b1, 0, none⟩))), (3, (.func (.func 67) #[] #[(.pointer (some ⟨b1, 0, none⟩))])), (4, (.func (.func 68) #[] #[(.pointer (some ⟨b1, 0, none⟩))])), (43, (.slice I c.blocks.length O)), (44, (iI (c.blocks.length : Int))), (45, (iI (k : Int)))] ∧ mm = c.blocks.length - k ∧ (k ≤ c.blocks.length) ∧ (∀ j, j < k → jZ c.params c.regs (c.blocks.length : Int) (c.blocks.getD j default) = true)) _ ⟨0, _, fR, V, ⟨rfl, rfl, rfl, rfl, rfl, rfl, trivial⟩, rfl, (by omega), (by exact cP)⟩ ?_
  rintro e0 f9 H9 ⟨k, F9, T, a8, c3, rfl, hk, ha⟩ a9
  refine aH _ c3 (fun _ => ?_)
  clear c3
  replace hT := hT.mono T
  replace ad := ad.mono T
  have hvk := hv k
  refine ao 1 rfl ?_
  refine wR 2 [] 46 46 [] [(46, (.bool (decide ((k : Int) < (c.blocks.length : Int)))))] trivial rfl fun _ => ?_
  refine am 4 5 (v := (decide ((k : Int) < (c.blocks.length : Int)))) rfl rfl rfl rfl (fun bl => ?_) (fun bl => ?_)
  ·
   try simp only [BS] at bl
   refine ab ?_
   obtain ⟨J, b9⟩ := Sv.view (SR.sv ad a8)
   obtain ⟨c9, dd, dk, dl, ap⟩ := BlkT.fx (b9 k)
   let co : Value := (.agg ⟨[(.slice (cA (J k) 0) (c.blocks.getD k default).ins.length (cK (J k) 0)), (iI (c.blocks.getD k default).fin), (iI (c.blocks.getD k default).reg), (iI (c.blocks.getD k default).tgt), (iI (c.blocks.getD k default).els)]⟩)
   refine wRo 2 0 [(1, .o co)] 47 48 [] [(48, co)] (vA (Sv.ix (j := (k : Int)) (SR.sv ad a8) (by omega) (by omega)) (vA (qn 42 0 5 (BlkT.vw (b9 k) (by omega)) rfl rfl rfl rfl) trivial)) rfl fun _ => ?_
   refine aR (bK a8 rfl) rfl rfl ?_
   rintro _ ep _ ⟨bj, rfl, a5, _⟩
   have a5 : HS _ _ _ [_, [(bj, .cells [(.slice none 0 0), (iI 0), (iI 0), (iI 0), (iI 0)] none false)]] _ := a5
   refine aU (aG (q := 1) a5 rfl rfl rfl rfl rfl rfl rfl rfl rfl) rfl ?_
   rintro _ es _ ⟨av, _⟩
   let c5 : Fp := [(bj, .cells [(.slice (cA (J k) 0) (c.blocks.getD k default).ins.length (cK (J k) 0)), (iI (c.blocks.getD k default).fin), (iI (c.blocks.getD k default).reg), (iI (c.blocks.getD k default).tgt), (iI (c.blocks.getD k default).els)] none false)]
   have av : HS _ _ _ [_, c5] _ := av
   refine ai 3 rfl ?_
   refine wR 2 [(1, .o (.slice (cA (J k) 0) (c.blocks.getD k default).ins.length (cK (J k) 0)))] 49 52 [] [(50, (.slice (cA (J k) 0) (c.blocks.getD k default).ins.length (cK (J k) 0))), (51, (iI ((c.blocks.getD k default).ins.length : Int))), (52, (iI 0))] (vA (ql 40 0 (HS.hc av (i := 1) rfl) rfl rfl) trivial) rfl fun _ => ?_
   refine aC (fun (mm : Nat) f H' => ∃ (i : Nat) (F' : Fz), Fz.le F9 F' ∧ HS (Base.of H []) F' H' [ci, c5] R ∧ aT f [(1, (.pointer (some ⟨b1, 0, none⟩))), (3, (.func (.func 67) #[] #[(.pointer (some ⟨b1, 0, none⟩))])), (4, (.func (.func 68) #[] #[(.pointer (some ⟨b1, 0, none⟩))])), (6, (.pointer (some ⟨bj, 0, none⟩))), (43, (.slice I c.blocks.length O)), (44, (iI (c.blocks.length : Int))), (45, (iI (k : Int))), (46, (.bool (decide ((k : Int) < (c.blocks.length : Int))))), (48, co), (50, (.slice (cA (J k) 0) (c.blocks.getD k default).ins.length (cK (J k) 0))), (51, (iI ((c.blocks.getD k default).ins.length : Int))), (52, (iI (i : Int)))] ∧ mm = (c.blocks.getD k default).ins.length - i ∧ (i ≤ (c.blocks.getD k default).ins.length) ∧ (∀ j, j < i → eg c.params c.regs ((c.blocks.getD k default).ins.getD j default) = true)) _ ⟨0, _, fR, av, ⟨rfl, rfl, rfl, rfl, rfl, rfl, rfl, rfl, rfl, rfl, rfl, rfl, trivial⟩, rfl, (by omega), (by exact cP)⟩ ?_
   rintro ei ez a0 ⟨i, el, A, z, b7, rfl, hi, hb⟩ c8
   refine aH _ b7 (fun _ => ?_)
   clear b7
   replace hT := hT.mono A
   replace ad := ad.mono A
   replace ap := ap.mono A
   refine ao 1 rfl ?_
   refine wR 2 [] 53 53 [] [(53, (.bool (decide ((i : Int) < ((c.blocks.getD k default).ins.length : Int)))))] trivial rfl fun _ => ?_
   refine am 4 5 (v := (decide ((i : Int) < ((c.blocks.getD k default).ins.length : Int)))) rfl rfl rfl rfl (fun b0 => ?_) (fun b0 => ?_)
   ·
    try simp only [BS] at b0
    refine ab ?_
    obtain ⟨ar, ch⟩ := Sv.view (SR.sv ap z)
    obtain ⟨dn, ds, dt, dv, d1, cv⟩ := VInT.fx (ch i)
    let bb : Value := (.agg ⟨[(iI ((c.blocks.getD k default).ins.getD i default).i.op), (iI ((c.blocks.getD k default).ins.getD i default).i.a), (iI ((c.blocks.getD k default).ins.getD i default).i.b), (iI ((c.blocks.getD k default).ins.getD i default).i.c), (iI ((c.blocks.getD k default).ins.getD i default).i.n), (.slice (cA (ar i) 5) ((c.blocks.getD k default).ins.getD i default).args.length (cK (ar i) 5))]⟩)
    refine wRo 2 0 [(1, .o bb)] 54 55 [] [(55, bb)] (vA (Sv.ix (j := (i : Int)) (SR.sv ap z) (by omega) (by omega)) (vA (qn 47 0 6 (VInT.vw (ch i) (by omega)) rfl rfl rfl rfl) trivial)) rfl fun _ => ?_
    refine aR (bK z rfl) rfl rfl ?_
    rintro _ et _ ⟨c0, rfl, a6, _⟩
    have a6 : HS _ _ _ [_, _, [(c0, .cells [(iI 0), (iI 0), (iI 0), (iI 0), (iI 0), (.slice none 0 0)] none false)]] _ := a6
    refine aU (aG (q := 2) a6 rfl rfl rfl rfl rfl rfl rfl rfl rfl) rfl ?_
    rintro _ ev _ ⟨ag, _⟩
    have ag : HS _ _ _ [_, _, [(c0, .cells [(iI ((c.blocks.getD k default).ins.getD i default).i.op), (iI ((c.blocks.getD k default).ins.getD i default).i.a), (iI ((c.blocks.getD k default).ins.getD i default).i.b), (iI ((c.blocks.getD k default).ins.getD i default).i.c), (iI ((c.blocks.getD k default).ins.getD i default).i.n), (.slice (cA (ar i) 5) ((c.blocks.getD k default).ins.getD i default).args.length (cK (ar i) 5))] none false)]] _ := ag
    refine ai 2 rfl ?_
    refine ab ?_
    let c6 : Value := (.agg ⟨[(iI c.params), (iI c.regs), (.slice I c.blocks.length O)]⟩)
    refine wRo 2 0 [(0, .o c6), (1, .o bb)] 56 57 [] [(56, c6), (57, bb)] (vA (qn 24 0 3 (HS.hc ag (i := 0) rfl) rfl rfl rfl rfl) (vA (qn 47 0 6 (HS.hc ag (i := 2) rfl) rfl rfl rfl rfl) trivial)) rfl fun _ => ?_
    refine aD (az rfl rfl rfl) rfl rfl (vinstr_c ex c (⟨(⟨((c.blocks.getD k default).ins.getD i default).i.op, ((c.blocks.getD k default).ins.getD i default).i.a, ((c.blocks.getD k default).ins.getD i default).i.b, ((c.blocks.getD k default).ins.getD i default).i.c, ((c.blocks.getD k default).ins.getD i default).i.n⟩ : InsT), ((c.blocks.getD k default).ins.getD i default).args⟩ : VInT) (HS.call ag) (by omega) (by omega) ad (by omega) (by omega) (by omega) (by omega) (by omega) cv hT) ?_
    rintro _ ey ⟨e1, em, b6, aj, rfl, rfl⟩
    replace aj := HS.back ag rfl aj
    have aj : HS _ _ _ [_, _, _] _ := aj
    refine wRo 1 3 [] 59 59 [] [(59, (.bool (!(eg c.params c.regs (⟨(⟨((c.blocks.getD k default).ins.getD i default).i.op, ((c.blocks.getD k default).ins.getD i default).i.a, ((c.blocks.getD k default).ins.getD i default).i.b, ((c.blocks.getD k default).ins.getD i default).i.c, ((c.blocks.getD k default).ins.getD i default).i.n⟩ : InsT), ((c.blocks.getD k default).ins.getD i default).args⟩ : VInT)))))] trivial rfl fun _ => ?_
    refine ai 1 rfl ?_
    refine am 1 2 (v := (!(eg c.params c.regs (⟨(⟨((c.blocks.getD k default).ins.getD i default).i.op, ((c.blocks.getD k default).ins.getD i default).i.a, ((c.blocks.getD k default).ins.getD i default).i.b, ((c.blocks.getD k default).ins.getD i default).i.c, ((c.blocks.getD k default).ins.getD i default).i.n⟩ : InsT), ((c.blocks.getD k default).ins.getD i default).args⟩ : VInT)))) rfl rfl rfl rfl (fun a7 => ?_) (fun a7 => ?_)
    ·
     try simp only [BS] at a7
     have h3 := a7
     refine wR 1 [] 2 2 [] [(2, (.bool false))] trivial rfl fun _ => ?_
     refine ah ⟨.inr rfl, _, rfl, false, _, (fT (fT (T) A) b6), (HS.forget aj), rfl, (by exact iA (cL (by omega) (blk_no (cL (by omega) h3))))⟩
    ·
     try simp only [BS] at a7
     refine wR 1 [] 52 52 [60] [(52, (iI ((i : Int) + 1)))] (vA (vi (n := (i : Int) + 1) (by omega)) trivial) rfl fun _ => ?_
     refine c8 _ _ _ ?_ ⟨i + 1, _, (fT (A) b6), (HS.sub aj (List.sublist_append_left _ _)), ⟨rfl, rfl, rfl, rfl, rfl, rfl, rfl, rfl, rfl, rfl, rfl, rfl, trivial⟩, rfl, (by omega), (by exact b8 hb (by assumption))⟩
     omega
   ·
    try simp only [BS] at b0
    have hal := dC hb (by omega)
    refine wR 3 [] 1 0 [9] [(9, (.bool false))] trivial rfl fun _ => ?_
    refine wR 3 [(1, .o (iI (c.blocks.getD k default).fin))] 61 62 [] [(62, (iI (c.blocks.getD k default).fin))] (vA (ql 3 1 (HS.hc z (i := 1) rfl) rfl rfl) trivial) rfl fun _ => ?_
    refine wR 1 [] 63 64 [] [(63, (.bool ((c.blocks.getD k default).fin == 1)))] trivial rfl fun _ => ?_
    refine am 0 1 (v := ((c.blocks.getD k default).fin == 1)) rfl rfl rfl rfl (fun b2 => ?_) (fun b2 => ?_)
    ·
     try simp only [BS] at b2
     refine wR 3 [(2, .o (iI (c.blocks.getD k default).tgt)), (3, .o (.bool (aJ (c.blocks.length : Int) (c.blocks.getD k default).tgt))), (6, .o (iI (c.blocks.getD k default).reg)), (11, .o (iI (c.blocks.getD k default).els))] 65 78 [9] [(9, (.bool ((aJ (c.blocks.length : Int) (c.blocks.getD k default).tgt && ((c.blocks.getD k default).reg == 0)) && ((c.blocks.getD k default).els == 0))))] (vA (ql 3 3 (HS.hc z (i := 1) rfl) rfl rfl) (vA (lC ex (c.blocks.getD k default).tgt c a0 (by omega) (HS.hc z (i := 0) rfl) (by omega) (by omega)) (vA (fun (U : (aJ (c.blocks.length : Int) (c.blocks.getD k default).tgt) = true) => (ql 3 2 (HS.hc z (i := 1) rfl) rfl rfl)) (vA (fun (U : (aJ (c.blocks.length : Int) (c.blocks.getD k default).tgt && ((c.blocks.getD k default).reg == 0)) = true) => (ql 3 4 (HS.hc z (i := 1) rfl) rfl rfl)) trivial)))) rfl fun _ => ?_
     refine wR 1 [] 133 134 [] [(134, (.bool (!((aJ (c.blocks.length : Int) (c.blocks.getD k default).tgt && ((c.blocks.getD k default).reg == 0)) && ((c.blocks.getD k default).els == 0)))))] trivial rfl fun _ => ?_
     refine am 1 2 (v := (!((aJ (c.blocks.length : Int) (c.blocks.getD k default).tgt && ((c.blocks.getD k default).reg == 0)) && ((c.blocks.getD k default).els == 0)))) rfl rfl rfl rfl (fun a1 => ?_) (fun a1 => ?_)
     ·
      try simp only [BS] at a1
      have Z := a1
      try simp only [bp] at Z
      refine wR 1 [] 2 2 [] [(2, (.bool false))] trivial rfl fun _ => ?_
      refine ah ⟨.inr rfl, _, rfl, false, _, (fT (T) A), (HS.forget z), rfl, (by exact iA (cL (k := k) (by omega) (iq (Bool.eq_false_iff.2 fun hv => by rw [bE] at hv; omega))))⟩
     ·
      try simp only [BS] at a1
      have Z := a1
      try simp only [bp] at Z
      refine wR 1 [] 45 45 [135] [(45, (iI ((k : Int) + 1)))] (vA (vi (n := (k : Int) + 1) (by omega)) trivial) rfl fun _ => ?_
      refine a9 _ _ _ ?_ ⟨k + 1, _, (fT (T) A), (HS.sub z (List.sublist_append_left _ _)), ⟨rfl, rfl, rfl, rfl, rfl, rfl, trivial⟩, rfl, (by omega), (by exact b8 ha (ip hal (by (rw [bE]; omega))))⟩
      omega
    ·
     try simp only [BS] at b2
     refine wR 1 [] 79 80 [] [(79, (.bool ((c.blocks.getD k default).fin == 2)))] trivial rfl fun _ => ?_
     refine am 0 1 (v := ((c.blocks.getD k default).fin == 2)) rfl rfl rfl rfl (fun b3 => ?_) (fun b3 => ?_)
     ·
      try simp only [BS] at b3
      refine wR 3 [(2, .o (iI (c.blocks.getD k default).tgt)), (3, .o (.bool (aJ (c.blocks.length : Int) (c.blocks.getD k default).tgt))), (7, .o (iI (c.blocks.getD k default).els)), (8, .o (.bool (aJ (c.blocks.length : Int) (c.blocks.getD k default).els))), (13, .o (iI (c.blocks.getD k default).reg)), (14, .o (.bool (aJ c.regs (c.blocks.getD k default).reg)))] 81 96 [9] [(9, (.bool ((aJ (c.blocks.length : Int) (c.blocks.getD k default).tgt && aJ (c.blocks.length : Int) (c.blocks.getD k default).els) && aJ c.regs (c.blocks.getD k default).reg)))] (vA (ql 3 3 (HS.hc z (i := 1) rfl) rfl rfl) (vA (lC ex (c.blocks.getD k default).tgt c a0 (by omega) (HS.hc z (i := 0) rfl) (by omega) (by omega)) (vA (fun (U : (aJ (c.blocks.length : Int) (c.blocks.getD k default).tgt) = true) => (ql 3 4 (HS.hc z (i := 1) rfl) rfl rfl)) (vA (fun (U : (aJ (c.blocks.length : Int) (c.blocks.getD k default).tgt) = true) => (lC ex (c.blocks.getD k default).els c a0 (by omega) (HS.hc z (i := 0) rfl) (by omega) (by omega))) (vA (fun (U : (aJ (c.blocks.length : Int) (c.blocks.getD k default).tgt && aJ (c.blocks.length : Int) (c.blocks.getD k default).els) = true) => (ql 3 2 (HS.hc z (i := 1) rfl) rfl rfl)) (vA (fun (U : (aJ (c.blocks.length : Int) (c.blocks.getD k default).tgt && aJ (c.blocks.length : Int) (c.blocks.getD k default).els) = true) => (cReg_c_q ex (c.blocks.getD k default).reg c a0 (by (try simp only [BS] at U); omega) (HS.hc z (i := 0) rfl) (by (try simp only [BS] at U); omega) (by (try simp only [BS] at U); omega))) trivial)))))) rfl fun _ => ?_
      refine wR 1 [] 133 134 [] [(134, (.bool (!((aJ (c.blocks.length : Int) (c.blocks.getD k default).tgt && aJ (c.blocks.length : Int) (c.blocks.getD k default).els) && aJ c.regs (c.blocks.getD k default).reg))))] trivial rfl fun _ => ?_
      refine am 1 2 (v := (!((aJ (c.blocks.length : Int) (c.blocks.getD k default).tgt && aJ (c.blocks.length : Int) (c.blocks.getD k default).els) && aJ c.regs (c.blocks.getD k default).reg))) rfl rfl rfl rfl (fun a2 => ?_) (fun a2 => ?_)
      ·
       try simp only [BS] at a2
       have Z := a2
       try simp only [gF, bp] at Z
       refine wR 1 [] 2 2 [] [(2, (.bool false))] trivial rfl fun _ => ?_
       refine ah ⟨.inr rfl, _, rfl, false, _, (fT (T) A), (HS.forget z), rfl, (by exact iA (cL (k := k) (by omega) (iq (Bool.eq_false_iff.2 fun hv => by rw [bE] at hv; omega))))⟩
      ·
       try simp only [BS] at a2
       have Z := a2
       try simp only [bp] at Z
       refine wR 1 [] 45 45 [135] [(45, (iI ((k : Int) + 1)))] (vA (vi (n := (k : Int) + 1) (by omega)) trivial) rfl fun _ => ?_
       refine a9 _ _ _ ?_ ⟨k + 1, _, (fT (T) A), (HS.sub z (List.sublist_append_left _ _)), ⟨rfl, rfl, rfl, rfl, rfl, rfl, trivial⟩, rfl, (by omega), (by exact b8 ha (ip hal (by (rw [bE]; omega))))⟩
       omega
     ·
      try simp only [BS] at b3
      refine wR 1 [] 97 98 [] [(97, (.bool ((c.blocks.getD k default).fin == 3)))] trivial rfl fun _ => ?_
      refine am 0 1 (v := ((c.blocks.getD k default).fin == 3)) rfl rfl rfl rfl (fun b4 => ?_) (fun b4 => ?_)
      ·
       try simp only [BS] at b4
       refine wR 3 [(2, .o (iI (c.blocks.getD k default).reg)), (3, .o (.bool (aJ c.regs (c.blocks.getD k default).reg))), (6, .o (iI (c.blocks.getD k default).tgt)), (11, .o (iI (c.blocks.getD k default).els))] 99 112 [9] [(9, (.bool ((aJ c.regs (c.blocks.getD k default).reg && ((c.blocks.getD k default).tgt == 0)) && ((c.blocks.getD k default).els == 0))))] (vA (ql 3 2 (HS.hc z (i := 1) rfl) rfl rfl) (vA (cReg_c_q ex (c.blocks.getD k default).reg c a0 (by omega) (HS.hc z (i := 0) rfl) (by omega) (by omega)) (vA (fun (U : (aJ c.regs (c.blocks.getD k default).reg) = true) => (ql 3 3 (HS.hc z (i := 1) rfl) rfl rfl)) (vA (fun (U : (aJ c.regs (c.blocks.getD k default).reg && ((c.blocks.getD k default).tgt == 0)) = true) => (ql 3 4 (HS.hc z (i := 1) rfl) rfl rfl)) trivial)))) rfl fun _ => ?_
       refine wR 1 [] 133 134 [] [(134, (.bool (!((aJ c.regs (c.blocks.getD k default).reg && ((c.blocks.getD k default).tgt == 0)) && ((c.blocks.getD k default).els == 0)))))] trivial rfl fun _ => ?_
       refine am 1 2 (v := (!((aJ c.regs (c.blocks.getD k default).reg && ((c.blocks.getD k default).tgt == 0)) && ((c.blocks.getD k default).els == 0)))) rfl rfl rfl rfl (fun a3 => ?_) (fun a3 => ?_)
       ·
        try simp only [BS] at a3
        have Z := a3
        try simp only [bp] at Z
        refine wR 1 [] 2 2 [] [(2, (.bool false))] trivial rfl fun _ => ?_
        refine ah ⟨.inr rfl, _, rfl, false, _, (fT (T) A), (HS.forget z), rfl, (by exact iA (cL (k := k) (by omega) (iq (Bool.eq_false_iff.2 fun hv => by rw [bE] at hv; omega))))⟩
       ·
        try simp only [BS] at a3
        have Z := a3
        try simp only [bp] at Z
        refine wR 1 [] 45 45 [135] [(45, (iI ((k : Int) + 1)))] (vA (vi (n := (k : Int) + 1) (by omega)) trivial) rfl fun _ => ?_
        refine a9 _ _ _ ?_ ⟨k + 1, _, (fT (T) A), (HS.sub z (List.sublist_append_left _ _)), ⟨rfl, rfl, rfl, rfl, rfl, rfl, trivial⟩, rfl, (by omega), (by exact b8 ha (ip hal (by (rw [bE]; omega))))⟩
        omega
      ·
       try simp only [BS] at b4
       refine wR 1 [] 113 114 [] [(113, (.bool ((c.blocks.getD k default).fin == 4)))] trivial rfl fun _ => ?_
       refine am 0 3 (v := ((c.blocks.getD k default).fin == 4)) rfl rfl rfl rfl (fun b5 => ?_) (fun b5 => ?_)
       ·
        try simp only [BS] at b5
        refine wR 3 [(1, .o (iI (c.blocks.getD k default).tgt)), (5, .o (iI (c.blocks.getD k default).tgt)), (10, .o (iI (c.blocks.getD k default).reg)), (15, .o (iI (c.blocks.getD k default).els))] 115 132 [9] [(9, (.bool ((((decide ((1 : Int) ≤ (c.blocks.getD k default).tgt)) && (decide ((c.blocks.getD k default).tgt < 33554432))) && ((c.blocks.getD k default).reg == 0)) && ((c.blocks.getD k default).els == 0))))] (vA (ql 3 3 (HS.hc z (i := 1) rfl) rfl rfl) (vA (fun (U : (decide ((1 : Int) ≤ (c.blocks.getD k default).tgt)) = true) => (ql 3 3 (HS.hc z (i := 1) rfl) rfl rfl)) (vA (fun (U : ((decide ((1 : Int) ≤ (c.blocks.getD k default).tgt)) && (decide ((c.blocks.getD k default).tgt < 33554432))) = true) => (ql 3 2 (HS.hc z (i := 1) rfl) rfl rfl)) (vA (fun (U : (((decide ((1 : Int) ≤ (c.blocks.getD k default).tgt)) && (decide ((c.blocks.getD k default).tgt < 33554432))) && ((c.blocks.getD k default).reg == 0)) = true) => (ql 3 4 (HS.hc z (i := 1) rfl) rfl rfl)) trivial)))) rfl fun _ => ?_
        refine wR 1 [] 133 134 [] [(134, (.bool (!((((decide ((1 : Int) ≤ (c.blocks.getD k default).tgt)) && (decide ((c.blocks.getD k default).tgt < 33554432))) && ((c.blocks.getD k default).reg == 0)) && ((c.blocks.getD k default).els == 0)))))] trivial rfl fun _ => ?_
        refine am 1 2 (v := (!((((decide ((1 : Int) ≤ (c.blocks.getD k default).tgt)) && (decide ((c.blocks.getD k default).tgt < 33554432))) && ((c.blocks.getD k default).reg == 0)) && ((c.blocks.getD k default).els == 0)))) rfl rfl rfl rfl (fun a4 => ?_) (fun a4 => ?_)
        ·
         try simp only [BS] at a4
         have Z := a4
         try simp only [gF, bp] at Z
         refine wR 1 [] 2 2 [] [(2, (.bool false))] trivial rfl fun _ => ?_
         refine ah ⟨.inr rfl, _, rfl, false, _, (fT (T) A), (HS.forget z), rfl, (by exact iA (cL (k := k) (by omega) (iq (Bool.eq_false_iff.2 fun hv => by rw [bE] at hv; omega))))⟩
        ·
         try simp only [BS] at a4
         have Z := a4
         try simp only [gF, bp] at Z
         refine wR 1 [] 45 45 [135] [(45, (iI ((k : Int) + 1)))] (vA (vi (n := (k : Int) + 1) (by omega)) trivial) rfl fun _ => ?_
         refine a9 _ _ _ ?_ ⟨k + 1, _, (fT (T) A), (HS.sub z (List.sublist_append_left _ _)), ⟨rfl, rfl, rfl, rfl, rfl, rfl, trivial⟩, rfl, (by omega), (by exact b8 ha (ip hal (by (rw [bE]; omega))))⟩
         omega
       ·
        try simp only [BS] at b5
        refine wR 1 [] 133 134 [] [(134, (.bool true))] trivial rfl fun _ => ?_
        refine bh 1 (v := true) rfl rfl rfl rfl ?_
        refine wR 1 [] 2 2 [] [(2, (.bool false))] trivial rfl fun _ => ?_
        refine ah ⟨.inr rfl, _, rfl, false, _, (fT (T) A), (HS.forget z), rfl, (by exact iA (cL (k := k) (by omega) (iq (Bool.eq_false_iff.2 fun hv => by rw [bE] at hv; omega))))⟩
  ·
   try simp only [BS] at bl
   refine wR 1 [] 2 2 [] [(2, (.bool true))] trivial rfl fun _ => ?_
   refine ah ⟨.inr rfl, _, rfl, true, _, (T), (HS.forget a8), rfl, (by exact val_yes hlim (dC ha (by omega)))⟩
set_option maxHeartbeats 1000000 in
theorem rvalid_c (ex : FuncId) {T : Option Addr} {U : Nat} (c : VFnT) {F : Fz} {H : Heap} {R : List Fp} (hs : HS (.of H []) F H [] R) (d2 : in64 c.params) (ea : in64 c.regs) (A : SR F (.slice T c.blocks.length U) c.blocks) (hT : TB 37 tabC F) (hv : ∀ j, (c.blocks.getD j default).ins.length ≤ 9223372036854775807) : C Tryd.prog 1 (KT 60 ex 37 tabC) 40 [(.agg ⟨[(iI c.params), (iI c.regs), (.slice T c.blocks.length U)]⟩)] H fun v H' => ∃ (r : Bool) (F' : Fz), Fz.le F F' ∧ HS (.of H []) F' H' [] R ∧ v = .bool r ∧ r = eL c := by
 refine aL Tryd.func40 rfl rfl ?_
 refine ao 1 rfl ?_
 refine ab ?_
 refine aR (cw hs rfl rfl) rfl rfl ?_
 rintro _ H2 _ ⟨b1, rfl, V, _⟩
 let a8 : Fp := [(b1, .cells [(iI c.params), (iI c.regs), (.slice T c.blocks.length U)] none false)]
 have V : HS _ _ _ [a8] _ := V
 refine wa (.bool false) rfl rfl rfl ?_
 refine ai 3 rfl ?_
 refine wR 1 [(1, .o (iI c.params)), (5, .o (iI c.params)), (10, .o (iI c.regs)), (15, .o (iI c.regs)), (20, .o (.slice T c.blocks.length U)), (26, .o (.slice T c.blocks.length U))] 6 35 [] [(35, (.bool ((((((decide (c.params < 0)) || (decide ((6 : Int) < c.params))) || (decide (c.regs < 0))) || (decide ((3000 : Int) < c.regs))) || (decide ((c.blocks.length : Int) < 1))) || (decide ((1000 : Int) < (c.blocks.length : Int))))))] (vA (ql 3 0 (HS.hc V (i := 0) rfl) rfl rfl) (vA (fun (g1 : (decide (c.params < 0)) = false) => (ql 3 0 (HS.hc V (i := 0) rfl) rfl rfl)) (vA (fun (g1 : ((decide (c.params < 0)) || (decide ((6 : Int) < c.params))) = false) => (ql 3 1 (HS.hc V (i := 0) rfl) rfl rfl)) (vA (fun (g1 : (((decide (c.params < 0)) || (decide ((6 : Int) < c.params))) || (decide (c.regs < 0))) = false) => (ql 3 1 (HS.hc V (i := 0) rfl) rfl rfl)) (vA (fun (g1 : ((((decide (c.params < 0)) || (decide ((6 : Int) < c.params))) || (decide (c.regs < 0))) || (decide ((3000 : Int) < c.regs))) = false) => (ql 22 2 (HS.hc V (i := 0) rfl) rfl rfl)) (vA (fun (g1 : (((((decide (c.params < 0)) || (decide ((6 : Int) < c.params))) || (decide (c.regs < 0))) || (decide ((3000 : Int) < c.regs))) || (decide ((c.blocks.length : Int) < 1))) = false) => (ql 22 2 (HS.hc V (i := 0) rfl) rfl rfl)) trivial)))))) rfl fun _ => ?_
 refine am 1 3 (v := ((((((decide (c.params < 0)) || (decide ((6 : Int) < c.params))) || (decide (c.regs < 0))) || (decide ((3000 : Int) < c.regs))) || (decide ((c.blocks.length : Int) < 1))) || (decide ((1000 : Int) < (c.blocks.length : Int))))) rfl rfl rfl rfl (fun c4 => ?_) (fun c4 => ?_)
 ·
  try simp only [BS] at c4
  refine wR 1 [] 2 2 [] [(2, (.bool false))] trivial rfl fun _ => ?_
  refine ah ⟨.inr rfl, _, rfl, false, _, fR, (HS.forget V), rfl, (by exact val_lim (by omega))⟩
 ·
  try simp only [BS] at c4
  have hlim : 0 ≤ c.params ∧ c.params ≤ 6 ∧ 0 ≤ c.regs ∧ c.regs ≤ 3000 ∧ 1 ≤ c.blocks.length ∧ c.blocks.length ≤ 1000 := by omega
  refine wR 2 [] 1 0 [3] [(3, (iI 0))] trivial rfl fun _ => ?_
  refine aC (fun (mm : Nat) f H' => ∃ (k : Nat) (F' : Fz), Fz.le F F' ∧ HS (Base.of H []) F' H' [a8] R ∧ aT f [(1, (.pointer (some ⟨b1, 0, none⟩))), (3, (iI (k : Int)))] ∧ mm = c.blocks.length - k ∧ (k ≤ c.blocks.length) ∧ (∀ j, j < k → jZ c.params c.regs (c.blocks.length : Int) (c.blocks.getD j default) = true)) _ ⟨0, _, fR, V, ⟨rfl, rfl, trivial⟩, rfl, (by omega), (by exact cP)⟩ ?_
  rintro ev f7 H7 ⟨k, F7, ap, aq, b3, rfl, hk, ha⟩ c0
  refine aH _ b3 (fun _ => ?_)
  clear b3
  replace hT := hT.mono ap
  replace A := A.mono ap
  have hvk := hv k
  refine ao 2 rfl ?_
  refine wR 1 [(2, .o (.slice T c.blocks.length U))] 36 40 [] [(40, (.bool (decide ((k : Int) < (c.blocks.length : Int)))))] (vA (ql 22 2 (HS.hc aq (i := 0) rfl) rfl rfl) trivial) rfl fun _ => ?_
  refine am 4 5 (v := (decide ((k : Int) < (c.blocks.length : Int)))) rfl rfl rfl rfl (fun c9 => ?_) (fun c9 => ?_)
  ·
   try simp only [BS] at c9
   refine ab ?_
   obtain ⟨z, a7⟩ := Sv.view (SR.sv A aq)
   obtain ⟨c3, c5, c6, c7, O⟩ := BlkT.fx (a7 k)
   let ar : Value := (.agg ⟨[(.slice (cA (z k) 0) (c.blocks.getD k default).ins.length (cK (z k) 0)), (iI (c.blocks.getD k default).fin), (iI (c.blocks.getD k default).reg), (iI (c.blocks.getD k default).tgt), (iI (c.blocks.getD k default).els)]⟩)
   refine wRo 5 0 [(1, .o (.slice T c.blocks.length U)), (4, .o ar)] 43 47 [] [(47, ar)] (vA (ql 22 2 (HS.hc aq (i := 0) rfl) rfl rfl) (vA (Sv.ix (j := (k : Int)) (SR.sv A aq) (by omega) (by omega)) (vA (qn 42 0 5 (BlkT.vw (a7 k) (by omega)) rfl rfl rfl rfl) trivial))) rfl fun _ => ?_
   refine aR (bK aq rfl) rfl rfl ?_
   rintro _ el _ ⟨av, rfl, a1, _⟩
   have a1 : HS _ _ _ [_, [(av, .cells [(.slice none 0 0), (iI 0), (iI 0), (iI 0), (iI 0)] none false)]] _ := a1
   refine aU (aG (q := 1) a1 rfl rfl rfl rfl rfl rfl rfl rfl rfl) rfl ?_
   rintro _ em _ ⟨ag, _⟩
   let b4 : Fp := [(av, .cells [(.slice (cA (z k) 0) (c.blocks.getD k default).ins.length (cK (z k) 0)), (iI (c.blocks.getD k default).fin), (iI (c.blocks.getD k default).reg), (iI (c.blocks.getD k default).tgt), (iI (c.blocks.getD k default).els)] none false)]
   have ag : HS _ _ _ [_, b4] _ := ag
   refine ai 3 rfl ?_
   refine ab ?_
   let a3 : Value := (.agg ⟨[(iI c.params), (iI c.regs), (.slice T c.blocks.length U)]⟩)
   refine wRo 2 0 [(0, .o ar), (1, .o a3)] 48 49 [] [(48, ar), (49, a3)] (vA (qn 42 0 5 (HS.hc ag (i := 1) rfl) rfl rfl rfl rfl) (vA (qn 24 0 3 (HS.hc ag (i := 0) rfl) rfl rfl rfl rfl) trivial)) rfl fun _ => ?_
   refine aD (az rfl rfl rfl) rfl rfl (rEnd_c ex (⟨(c.blocks.getD k default).ins, (c.blocks.getD k default).fin, (c.blocks.getD k default).reg, (c.blocks.getD k default).tgt, (c.blocks.getD k default).els⟩ : BlkT) c (HS.call ag) O (by omega) (by omega) (by omega) (by omega) (by omega) (by omega) A hT) ?_
   rintro _ ep ⟨ey, co, Z, aj, rfl, rfl⟩
   replace aj := HS.back ag rfl aj
   have aj : HS _ _ _ [_, _] _ := aj
   replace hT := hT.mono Z
   replace A := A.mono Z
   replace O := O.mono Z
   refine wRo 1 3 [] 51 51 [] [(51, (.bool (!(fQ (c.blocks.length : Int) c.regs (⟨(c.blocks.getD k default).ins, (c.blocks.getD k default).fin, (c.blocks.getD k default).reg, (c.blocks.getD k default).tgt, (c.blocks.getD k default).els⟩ : BlkT)))))] trivial rfl fun _ => ?_
   refine ai 1 rfl ?_
   refine am 1 2 (v := (!(fQ (c.blocks.length : Int) c.regs (⟨(c.blocks.getD k default).ins, (c.blocks.getD k default).fin, (c.blocks.getD k default).reg, (c.blocks.getD k default).tgt, (c.blocks.getD k default).els⟩ : BlkT)))) rfl rfl rfl rfl (fun a0 => ?_) (fun a0 => ?_)
   ·
    try simp only [BS] at a0
    have h2 := a0
    refine wR 1 [] 2 2 [] [(2, (.bool false))] trivial rfl fun _ => ?_
    refine ah ⟨.inr rfl, _, rfl, false, _, (fT (ap) Z), (HS.forget aj), rfl, (by exact iA (cL (by omega) (iq h2)))⟩
   ·
    try simp only [BS] at a0
    have hend := a0
    refine wR 2 [] 1 0 [5] [(5, (iI 0))] trivial rfl fun _ => ?_
    refine aC (fun (mm : Nat) f H' => ∃ (i : Nat) (F' : Fz), Fz.le co F' ∧ HS (Base.of H []) F' H' [a8, b4] R ∧ aT f [(1, (.pointer (some ⟨b1, 0, none⟩))), (3, (iI (k : Int))), (4, (.pointer (some ⟨av, 0, none⟩))), (5, (iI (i : Int))), (40, (.bool (decide ((k : Int) < (c.blocks.length : Int))))), (47, ar), (48, ar), (49, a3), (50, (.bool (fQ (c.blocks.length : Int) c.regs (⟨(c.blocks.getD k default).ins, (c.blocks.getD k default).fin, (c.blocks.getD k default).reg, (c.blocks.getD k default).tgt, (c.blocks.getD k default).els⟩ : BlkT)))), (51, (.bool (!(fQ (c.blocks.length : Int) c.regs (⟨(c.blocks.getD k default).ins, (c.blocks.getD k default).fin, (c.blocks.getD k default).reg, (c.blocks.getD k default).tgt, (c.blocks.getD k default).els⟩ : BlkT)))))] ∧ mm = (c.blocks.getD k default).ins.length - i ∧ (i ≤ (c.blocks.getD k default).ins.length) ∧ (∀ j, j < i → eg c.params c.regs ((c.blocks.getD k default).ins.getD j default) = true)) _ ⟨0, _, fR, aj, ⟨rfl, rfl, rfl, rfl, rfl, rfl, rfl, rfl, rfl, rfl, trivial⟩, rfl, (by omega), (by exact cP)⟩ ?_
    rintro eb et es ⟨i, ec, ad, J, a6, rfl, hi, hb⟩ ch
    refine aH _ a6 (fun _ => ?_)
    clear a6
    replace hT := hT.mono ad
    replace A := A.mono ad
    replace O := O.mono ad
    refine ao 2 rfl ?_
    refine wR 1 [(2, .o (.slice (cA (z k) 0) (c.blocks.getD k default).ins.length (cK (z k) 0)))] 52 56 [] [(56, (.bool (decide ((i : Int) < ((c.blocks.getD k default).ins.length : Int)))))] (vA (ql 40 0 (HS.hc J (i := 1) rfl) rfl rfl) trivial) rfl fun _ => ?_
    refine am 4 5 (v := (decide ((i : Int) < ((c.blocks.getD k default).ins.length : Int)))) rfl rfl rfl rfl (fun a4 => ?_) (fun a4 => ?_)
    ·
     try simp only [BS] at a4
     refine aV rfl ?_
     refine wfv (v := (.pointer (some ⟨av, 0, none⟩))) (bQ rfl rfl) ?_
     refine au (v := (.slice (cA (z k) 0) (c.blocks.getD k default).ins.length (cK (z k) 0))) (id := .l av) (aP (i := 0) rfl rfl (HS.hc J.log0 (i := 1) rfl) rfl rfl) rfl rfl (bg rfl) (kb rfl) ?_
     refine fm (iI (i : Int)) rfl rfl rfl ?_
     refine wfv (v := (.pointer (some ⟨sB (.slice (cA (z k) 0) (c.blocks.getD k default).ins.length (cK (z k) 0)), sO (.slice (cA (z k) 0) (c.blocks.getD k default).ins.length (cK (z k) 0)) + i * Rp.sz VInT, none⟩))) (aW (α := VInT) (j := (i : Int)) rfl rfl rfl rfl (SR.sv O J.log0) (by omega) (by omega)) ?_
     obtain ⟨dt, b9, b7⟩ := Sv.at (SR.sv O J.log0) (aS (x := default) (show i < (c.blocks.getD k default).ins.length from by omega))
     obtain ⟨a9, b0, rfl, c8, dd, dk, dl, dn, b2⟩ := b9
     refine au (v := (.agg ⟨[(iI ((c.blocks.getD k default).ins.getD i default).i.op), (iI ((c.blocks.getD k default).ins.getD i default).i.a), (iI ((c.blocks.getD k default).ins.getD i default).i.b), (iI ((c.blocks.getD k default).ins.getD i default).i.c), (iI ((c.blocks.getD k default).ins.getD i default).i.n), (.slice a9 ((c.blocks.getD k default).ins.getD i default).args.length b0)]⟩)) (id := .l (sB (.slice (cA (z k) 0) (c.blocks.getD k default).ins.length (cK (z k) 0)))) (j0 (i := 0) rfl rfl rfl b7 rfl rfl rfl) rfl rfl (bg rfl) (kb rfl) ?_
     refine au (v := a3) (id := .l b1) (j0 (i := 0) rfl rfl rfl (HS.hc J.log0 (i := 0) rfl) rfl rfl rfl) rfl rfl (bg rfl) (kb rfl) ?_
     refine de (W := []) (az rfl rfl rfl) rfl rfl rfl (rinstr_c ex ((c.blocks.getD k default).ins.getD i default) c (HS.call J.log0) (by omega) (by omega) (by omega) (by omega) (by omega) b2 (by omega) (by omega) A hT) (kb rfl) ?_
     rintro _ cv ⟨ez, ei, a5, I, rfl, rfl⟩
     refine ⟨Wr.did I.log, fun ci bl => ?_⟩
     replace I := HS.back J.log0 rfl I
     replace I := HS.lg I J bl
     generalize ({ cv with log := ci } : Heap) = ds at I ⊢
     have I : HS _ _ _ [_, _] _ := I
     refine wfv (v := (.bool (!(eg c.params c.regs ((c.blocks.getD k default).ins.getD i default))))) (ap_not rfl) ?_
     refine bZ ?_
     refine ao 1 rfl ?_
     refine am 1 2 (v := (!(eg c.params c.regs ((c.blocks.getD k default).ins.getD i default)))) rfl rfl rfl rfl (fun a2 => ?_) (fun a2 => ?_)
     ·
      try simp only [BS] at a2
      have h4 := a2
      refine wR 1 [] 2 2 [] [(2, (.bool false))] trivial rfl fun _ => ?_
      refine ah ⟨.inr rfl, _, rfl, false, _, (fT (fT (fT (ap) Z) ad) a5), (HS.forget I), rfl, (by exact iA (cL (by omega) (blk_no (cL (by omega) h4))))⟩
     ·
      try simp only [BS] at a2
      refine wR 1 [] 57 58 [5] [(5, (iI ((i : Int) + 1)))] (vA (vi (n := (i : Int) + 1) (by omega)) trivial) rfl fun _ => ?_
      refine ch _ _ _ ?_ ⟨i + 1, _, (fT (ad) a5), I, ⟨rfl, rfl, rfl, rfl, rfl, rfl, rfl, rfl, rfl, rfl, trivial⟩, rfl, (by omega), (by exact b8 hb (by assumption))⟩
      omega
    ·
     try simp only [BS] at a4
     have hal := dC hb (by omega)
     refine wR 1 [] 41 42 [3] [(3, (iI ((k : Int) + 1)))] (vA (vi (n := (k : Int) + 1) (by omega)) trivial) rfl fun _ => ?_
     refine c0 _ _ _ ?_ ⟨k + 1, _, (fT (fT (ap) Z) ad), (HS.sub J (List.sublist_append_left _ _)), ⟨rfl, rfl, trivial⟩, rfl, (by omega), (by exact b8 ha (ip hal hend))⟩
     omega
  ·
   try simp only [BS] at c9
   refine wR 1 [] 2 2 [] [(2, (.bool true))] trivial rfl fun _ => ?_
   refine ah ⟨.inr rfl, _, rfl, true, _, (ap), (HS.forget aq), rfl, (by exact val_yes hlim (dC ha (by omega)))⟩
end Go.Proofs.YtlabedbmgmfbaaaDoor.m3
