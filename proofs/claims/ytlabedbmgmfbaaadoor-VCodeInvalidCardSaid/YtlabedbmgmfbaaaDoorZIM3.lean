/-
 Which virtual code is valid: the program and the reference, each by a symbolic run. No condition but that the table lies as laid.
-/
import Derived.Test.YtlabedbmgmfbaaaDoorZIM2
import Derived.Test.YtlabedbmgmfbaaaDoorZIRC
noncomputable section
namespace Go.Proofs.YtlabedbmgmfbaaaDoor.m3
open Go.R
set_option maxRecDepth 10000
set_option linter.unusedVariables false
open m1 m2
theorem cBlk_c (ex : FuncId) (n : Int) {z : Option Addr} {A : Nat} {b_c : Nat} (c : VFnT) (H : Heap) (hn : in64 n) (hc_c : HC H.get b_c 0 [(iI c.params), (iI c.regs), (.slice z c.blocks.length A)]) (E : in64 c.params) (I : in64 c.regs) : C Tryd.prog 1 (KT 60 ex 37 tabC) 67 [(iI n), (.pointer (some ⟨b_c, 0, none⟩))] H fun v H' => ∃ (r : Bool), H' = H ∧ v = .bool r ∧ r = aH (c.blocks.length : Int) n := by
 refine aJ Tryd.func67 rfl rfl ?_
 refine ao 1 rfl ?_
 refine wR 2 [] 3 3 [] [(3, (.bool false))] trivial rfl fun _ => ?_
 refine wR 1 [(5, .o (.slice z c.blocks.length A))] 3 12 [] [(3, (.bool ((decide ((0 : Int) ≤ n)) && (decide (n < (c.blocks.length : Int))))))] (vA (fun (J : (decide ((0 : Int) ≤ n)) = true) => (ql 22 2 hc_c rfl rfl)) trivial) rfl fun _ => ?_
 refine ah ⟨.inr rfl, _, rfl, ((decide ((0 : Int) ≤ n)) && (decide (n < (c.blocks.length : Int)))), rfl, rfl, (by rw [Bool.eq_iff_iff, br]; simp)⟩
theorem kP (ex : FuncId) (n : Int) {z : Option Addr} {I : Nat} {b_c : Nat} (c : VFnT) (H : Heap) (hn : in64 n) (hc_c : HC H.get b_c 0 [(iI c.params), (iI c.regs), (.slice z c.blocks.length I)]) (A : in64 c.params) (E : in64 c.regs) : C Tryd.prog 1 (KT 60 ex 37 tabC) 67 [(iI n), (.pointer (some ⟨b_c, 0, none⟩))] H fun v H' => v = (.bool (aH (c.blocks.length : Int) n)) ∧ H' = H :=
 cq (cBlk_c ex n c H hn hc_c A E) (by rintro _ _ ⟨_, rfl, rfl, rfl⟩; exact ⟨rfl, rfl⟩)
theorem cReg_c (ex : FuncId) (n : Int) {z : Option Addr} {A : Nat} {b_c : Nat} (c : VFnT) (H : Heap) (hn : in64 n) (hc_c : HC H.get b_c 0 [(iI c.params), (iI c.regs), (.slice z c.blocks.length A)]) (E : in64 c.params) (I : in64 c.regs) : C Tryd.prog 1 (KT 60 ex 37 tabC) 68 [(iI n), (.pointer (some ⟨b_c, 0, none⟩))] H fun v H' => ∃ (r : Bool), H' = H ∧ v = .bool r ∧ r = aH c.regs n := by
 refine aJ Tryd.func68 rfl rfl ?_
 refine ao 1 rfl ?_
 refine wR 2 [] 3 3 [] [(3, (.bool false))] trivial rfl fun _ => ?_
 refine wR 1 [(5, .o (iI c.regs))] 3 11 [] [(3, (.bool ((decide ((0 : Int) ≤ n)) && (decide (n < c.regs)))))] (vA (fun (J : (decide ((0 : Int) ≤ n)) = true) => (ql 3 1 hc_c rfl rfl)) trivial) rfl fun _ => ?_
 refine ah ⟨.inr rfl, _, rfl, ((decide ((0 : Int) ≤ n)) && (decide (n < c.regs))), rfl, rfl, (by rw [Bool.eq_iff_iff, br]; simp)⟩
theorem cReg_c_q (ex : FuncId) (n : Int) {z : Option Addr} {I : Nat} {b_c : Nat} (c : VFnT) (H : Heap) (hn : in64 n) (hc_c : HC H.get b_c 0 [(iI c.params), (iI c.regs), (.slice z c.blocks.length I)]) (A : in64 c.params) (E : in64 c.regs) : C Tryd.prog 1 (KT 60 ex 37 tabC) 68 [(iI n), (.pointer (some ⟨b_c, 0, none⟩))] H fun v H' => v = (.bool (aH c.regs n)) ∧ H' = H :=
 cq (cReg_c ex n c H hn hc_c A E) (by rintro _ _ ⟨_, rfl, rfl, rfl⟩; exact ⟨rfl, rfl⟩)
theorem cRegI_c (ex : FuncId) (n : Int) {z : Option Addr} {A : Nat} {b_c : Nat} (c : VFnT) (H : Heap) (hn : in64 n) (hc_c : HC H.get b_c 0 [(iI c.params), (iI c.regs), (.slice z c.blocks.length A)]) (E : in64 c.params) (I : in64 c.regs) : C Tryd.prog 1 (KT 60 ex 37 tabC) 82 [(iI n), (.pointer (some ⟨b_c, 0, none⟩))] H fun v H' => ∃ (r : Bool), H' = H ∧ v = .bool r ∧ r = aH c.regs n := by
 refine aJ Tryd.func82 rfl rfl ?_
 refine ao 1 rfl ?_
 refine wR 2 [] 3 3 [] [(3, (.bool false))] trivial rfl fun _ => ?_
 refine wR 1 [(5, .o (iI c.regs))] 3 11 [] [(3, (.bool ((decide ((0 : Int) ≤ n)) && (decide (n < c.regs)))))] (vA (fun (J : (decide ((0 : Int) ≤ n)) = true) => (ql 3 1 hc_c rfl rfl)) trivial) rfl fun _ => ?_
 refine ah ⟨.inr rfl, _, rfl, ((decide ((0 : Int) ≤ n)) && (decide (n < c.regs))), rfl, rfl, (by rw [Bool.eq_iff_iff, br]; simp)⟩
theorem gy (ex : FuncId) (n : Int) {z : Option Addr} {I : Nat} {b_c : Nat} (c : VFnT) (H : Heap) (hn : in64 n) (hc_c : HC H.get b_c 0 [(iI c.params), (iI c.regs), (.slice z c.blocks.length I)]) (A : in64 c.params) (E : in64 c.regs) : C Tryd.prog 1 (KT 60 ex 37 tabC) 82 [(iI n), (.pointer (some ⟨b_c, 0, none⟩))] H fun v H' => v = (.bool (aH c.regs n)) ∧ H' = H :=
 cq (cRegI_c ex n c H hn hc_c A E) (by rintro _ _ ⟨_, rfl, rfl, rfl⟩; exact ⟨rfl, rfl⟩)
theorem vform_c (ex : FuncId) (op : Int) {F : Fz} {H : Heap} {R : List Fp} (hs : HS (.of H []) F H [] R) (hop : in64 op) (hT : TB 37 tabC F) : C Tryd.prog 1 (KT 60 ex 37 tabC) 83 [(iI op)] H fun v H' => ∃ (r : Int) (F' : Fz), Fz.le F F' ∧ HS (.of H []) F' H' [] R ∧ v = .int .i64 r ∧ r = ay op := by
 refine aJ Tryd.func83 rfl rfl ?_
 refine ao 1 rfl ?_
 refine wR 3 [] 2 2 [] [(2, (iI 0))] trivial rfl fun _ => ?_
 refine wR 1 [] 5 6 [] [(6, (.bool (op == 38)))] trivial rfl fun _ => ?_
 refine aj 1 2 (v := (op == 38)) rfl rfl rfl rfl (fun I => ?_) (fun I => ?_)
 ·
  try simp only [BS] at I
  refine wR 1 [] 2 2 [] [(2, (iI 5))] trivial rfl fun _ => ?_
  refine ah ⟨.inr rfl, _, rfl, 5, _, fR, (HS.forget hs), rfl, (by unfold ay; split <;> first | rfl | omega)⟩
 ·
  try simp only [BS] at I
  refine ab ?_
  refine wm (iI op) rfl rfl rfl ?_
  refine aC (aw rfl rfl rfl) rfl rfl (m1.mInfo_c ex op (HS.call hs) (by omega) hT) ?_
  rintro _ Z ⟨x5, o5, V, O, z, rfl, T, U, rfl, rfl⟩
  replace z := HS.back hs rfl z
  have z : HS _ _ _ [] _ := z
  refine wRo 3 2 [] 10 11 [7] [(10, (.agg ⟨[(.string ⟨⟨(be op).name.b⟩⟩), (iI (be op).form), (.bool (be op).ra), (.bool (be op).wa), (.bool (be op).rb), (.bool (be op).mt), (iI (be op).words)]⟩)), (11, (.bool (infO op)))] trivial rfl fun _ => ?_
  refine aP (bp z rfl) rfl rfl ?_
  rintro _ H8 _ ⟨J, rfl, E, _⟩
  have E : HS _ _ _ [[(J, .cells [(.string ⟨⟨[]⟩⟩), (iI 0), (.bool false), (.bool false), (.bool false), (.bool false), (iI 0)] none false)]] _ := E
  refine aD (ax (q := 0) E rfl rfl rfl rfl rfl rfl rfl rfl rfl) rfl ?_
  rintro _ H9 _ ⟨A, _⟩
  have A : HS _ _ _ [[(J, .cells [(.string ⟨⟨(be op).name.b⟩⟩), (iI (be op).form), (.bool (be op).ra), (.bool (be op).wa), (.bool (be op).rb), (.bool (be op).mt), (iI (be op).words)] none false)]] _ := A
  refine wa (.bool (infO op)) rfl rfl rfl ?_
  refine ai 2 rfl ?_
  refine wR 1 [(1, .o (iI (be op).form))] 12 13 [2] [(2, (iI (be op).form))] (vA (ql 3 1 (HS.hc A (i := 0) rfl) rfl rfl) trivial) rfl fun _ => ?_
  refine ah ⟨.inr rfl, _, rfl, (be op).form, _, (O), (HS.forget A), rfl, (by unfold ay; split <;> first | rfl | omega)⟩
theorem rinfo_c (ex : FuncId) (op : Int) {F : Fz} {H : Heap} {R : List Fp} (hs : HS (.of H []) F H [] R) (hop : in64 op) (hT : TB 37 tabC F) : C Tryd.prog 1 (KT 60 ex 37 tabC) 65 [(iI op)] H fun v H' => ∃ (x : InfT) (F' : Fz), Fz.le F F' ∧ HS (.of H []) F' H' [] R ∧ v = .agg ⟨[.string ⟨⟨x.name.b⟩⟩, .int .i64 x.form, .bool x.ra, .bool x.wa, .bool x.rb, .bool x.mt, .int .i64 x.words]⟩ ∧ in64 x.form ∧ in64 x.words ∧ x = bm op := by
 refine aJ Tryd.func65 rfl rfl ?_
 refine ao 1 rfl ?_
 refine ab ?_
 refine aP (bp hs rfl) rfl rfl ?_
 rintro _ H2 _ ⟨U, rfl, E, _⟩
 have E : HS _ _ _ [[(U, .cells [(.string ⟨⟨[]⟩⟩), (iI 0), (.bool false), (.bool false), (.bool false), (.bool false), (iI 0)] none false)]] _ := E
 refine ai 3 rfl ?_
 refine wR 1 [] 5 6 [] [(6, (.bool (op == 38)))] trivial rfl fun _ => ?_
 refine aj 1 2 (v := (op == 38)) rfl rfl rfl rfl (fun V => ?_) (fun V => ?_)
 ·
  try simp only [BS] at V
  refine ab ?_
  refine wRo 1 0 [] 7 7 [] [(7, (.agg ⟨[(.string ⟨⟨[]⟩⟩), (iI 5), (.bool false), (.bool true), (.bool false), (.bool false), (iI 0)]⟩))] trivial rfl fun _ => ?_
  refine aD (ax (q := 0) E rfl rfl rfl rfl rfl rfl rfl rfl rfl) rfl ?_
  rintro _ H6 _ ⟨O, _⟩
  have O : HS _ _ _ [[(U, .cells [(.string ⟨⟨[]⟩⟩), (iI 5), (.bool false), (.bool true), (.bool false), (.bool false), (iI 0)] none false)]] _ := O
  refine ai 1 rfl ?_
  refine ah ⟨.inr rfl, _, (rC rfl (ldVN rfl rfl (HS.hc O (i := 0) rfl) rfl) rN), (⟨⟨[]⟩, 5, false, true, false, false, 0⟩ : InfT), _, fR, (HS.forget O), rfl, (by (dsimp only; omega)), (by (dsimp only; omega)), (by unfold bm; split <;> first | rfl | omega)⟩
 ·
  try simp only [BS] at V
  refine ab ?_
  refine wm (iI op) rfl rfl rfl ?_
  refine aC (aw rfl rfl rfl) rfl rfl (m1.rInfo_c ex op (HS.call E) (by omega) hT) ?_
  rintro _ H7 ⟨x7, o7, F7, ad, I, rfl, ag, ap, rfl, rfl⟩
  replace I := HS.back E rfl I
  have I : HS _ _ _ [_] _ := I
  let T : Value := (.agg ⟨[(.string ⟨⟨(be op).name.b⟩⟩), (iI (be op).form), (.bool (be op).ra), (.bool (be op).wa), (.bool (be op).rb), (.bool (be op).mt), (iI (be op).words)]⟩)
  refine wRo 3 2 [] 11 12 [8] [(11, T), (12, (.bool (infO op)))] trivial rfl fun _ => ?_
  refine aP (bp I rfl) rfl rfl ?_
  rintro _ aq _ ⟨Z, rfl, J, _⟩
  have J : HS _ _ _ [_, [(Z, .cells [(.string ⟨⟨[]⟩⟩), (iI 0), (.bool false), (.bool false), (.bool false), (.bool false), (iI 0)] none false)]] _ := J
  refine aD (ax (q := 1) J rfl rfl rfl rfl rfl rfl rfl rfl rfl) rfl ?_
  rintro _ ar _ ⟨z, _⟩
  have z : HS _ _ _ [_, [(Z, .cells [(.string ⟨⟨(be op).name.b⟩⟩), (iI (be op).form), (.bool (be op).ra), (.bool (be op).wa), (.bool (be op).rb), (.bool (be op).mt), (iI (be op).words)] none false)]] _ := z
  refine wa (.bool (infO op)) rfl rfl rfl ?_
  refine ai 2 rfl ?_
  refine ab ?_
  refine wRo 1 0 [(0, .o T)] 13 13 [] [(13, T)] (vA (qn 96 0 7 (HS.hc z (i := 1) rfl) rfl rfl rfl rfl) trivial) rfl fun _ => ?_
  refine aD (ax (q := 0) z rfl rfl rfl rfl rfl rfl rfl rfl rfl) rfl ?_
  rintro _ av _ ⟨A, _⟩
  have A : HS _ _ _ [[(U, .cells [(.string ⟨⟨(be op).name.b⟩⟩), (iI (be op).form), (.bool (be op).ra), (.bool (be op).wa), (.bool (be op).rb), (.bool (be op).mt), (iI (be op).words)] none false)], _] _ := A
  refine ai 1 rfl ?_
  refine ah ⟨.inr rfl, _, (rC rfl (ldVN rfl rfl (HS.hc A (i := 0) rfl) rfl) rN), (⟨⟨(be op).name.b⟩, (be op).form, (be op).ra, (be op).wa, (be op).rb, (be op).mt, (be op).words⟩ : InfT), _, (ad), (HS.forget A), rfl, (by omega), (by omega), (by unfold bm; split <;> first | rfl | omega)⟩
theorem rOperand_c (ex : FuncId) (has : Bool) (n : Int) (regs : Int) (H : Heap) (hn : in64 n) (hregs : in64 regs) : C Tryd.prog 1 (KT 60 ex 37 tabC) 84 [(.bool has), (iI n), (iI regs)] H fun v H' => ∃ (r : Bool), H' = H ∧ v = .bool r ∧ r = dq has n regs := by
 refine aJ Tryd.func84 rfl rfl ?_
 refine ao 1 rfl ?_
 refine wR 3 [] 6 6 [] [(6, (.bool false))] trivial rfl fun _ => ?_
 refine wR 1 [] 7 7 [] [(7, (.bool has))] trivial rfl fun _ => ?_
 refine aj 1 2 (v := has) rfl rfl rfl rfl (fun z => ?_) (fun z => ?_)
 ·
  have A := z
  try simp only [BS] at A
  refine wR 1 [] 8 14 [6] [(6, (.bool ((decide ((0 : Int) ≤ n)) && (decide (n < regs)))))] trivial rfl fun _ => ?_
  refine ah ⟨.inr rfl, _, rfl, ((decide ((0 : Int) ≤ n)) && (decide (n < regs))), rfl, rfl, (by rw [Bool.eq_iff_iff]; unfold dq; simp [br, z])⟩
 ·
  have A := z
  try simp only [BS] at A
  refine wR 1 [] 15 16 [6] [(6, (.bool (n == 0)))] trivial rfl fun _ => ?_
  refine ah ⟨.inr rfl, _, rfl, (n == 0), rfl, rfl, (by rw [Bool.eq_iff_iff]; unfold dq; simp [z])⟩
theorem eV (ex : FuncId) (has : Bool) (n : Int) (regs : Int) (H : Heap) (hn : in64 n) (hregs : in64 regs) : C Tryd.prog 1 (KT 60 ex 37 tabC) 84 [(.bool has), (iI n), (iI regs)] H fun v H' => v = (.bool (dq has n regs)) ∧ H' = H :=
 cq (rOperand_c ex has n regs H hn hregs) (by rintro _ _ ⟨_, rfl, rfl, rfl⟩; exact ⟨rfl, rfl⟩)
set_option maxHeartbeats 1000000 in
theorem vinstr_c (ex : FuncId) {a0 : Option Addr} {a1 : Nat} (c : VFnT) {I : Option Addr} {J : Nat} (iv : VInT) {F : Fz} {H : Heap} {R : List Fp} (hs : HS (.of H []) F H [] R) (ec : in64 c.params) (em : in64 c.regs) (es : SR F (.slice a0 c.blocks.length a1) c.blocks) (dl : in64 iv.i.op) (dn : in64 iv.i.a) (ds : in64 iv.i.b) (dt : in64 iv.i.c) (d1 : in64 iv.i.n) (ad : SR F (.slice I iv.args.length J) iv.args) (hT : TB 37 tabC F) : C Tryd.prog 1 (KT 60 ex 37 tabC) 69 [(.agg ⟨[(iI c.params), (iI c.regs), (.slice a0 c.blocks.length a1)]⟩), (.agg ⟨[(iI iv.i.op), (iI iv.i.a), (iI iv.i.b), (iI iv.i.c), (iI iv.i.n), (.slice I iv.args.length J)]⟩)] H fun v H' => ∃ (r : Bool) (F' : Fz), Fz.le F F' ∧ HS (.of H []) F' H' [] R ∧ v = .bool r ∧ r = ey c.params c.regs iv := by
 refine aJ Tryd.func69 rfl rfl ?_
 refine ao 1 rfl ?_
 refine ab ?_
 refine aP (b8 hs rfl rfl) rfl rfl ?_
 rintro _ H2 _ ⟨b1, rfl, ch, _⟩
 let c3 : Fp := [(b1, .cells [(iI c.params), (iI c.regs), (.slice a0 c.blocks.length a1)] none false)]
 have ch : HS _ _ _ [c3] _ := ch
 refine aP (b8 ch rfl rfl) rfl rfl ?_
 rintro _ H4 _ ⟨b3, rfl, a3, _⟩
 let c4 : Fp := [(b3, .cells [(iI iv.i.op), (iI iv.i.a), (iI iv.i.b), (iI iv.i.c), (iI iv.i.n), (.slice I iv.args.length J)] none false)]
 have a3 : HS _ _ _ [_, c4] _ := a3
 refine wa (.bool false) rfl rfl rfl ?_
 refine ai 2 rfl ?_
 refine ab ?_
 let c5 : Value := (.agg ⟨[(iI iv.i.op), (iI iv.i.a), (iI iv.i.b), (iI iv.i.c), (iI iv.i.n)]⟩)
 refine wRo 2 0 [(1, .o c5)] 13 14 [] [(14, c5)] (vA (qn 45 0 5 (HS.hc a3 (i := 1) rfl) rfl rfl rfl rfl) trivial) rfl fun _ => ?_
 refine aP (bp a3 rfl) rfl rfl ?_
 rintro _ H7 _ ⟨b6, rfl, ci, _⟩
 have ci : HS _ _ _ [_, _, [(b6, .cells [(iI 0), (iI 0), (iI 0), (iI 0), (iI 0)] none false)]] _ := ci
 refine aD (ax (q := 2) ci rfl rfl rfl rfl rfl rfl rfl rfl rfl) rfl ?_
 rintro _ H8 _ ⟨V, _⟩
 let c6 : Fp := [(b6, .cells [(iI iv.i.op), (iI iv.i.a), (iI iv.i.b), (iI iv.i.c), (iI iv.i.n)] none false)]
 have V : HS _ _ _ [_, _, c6] _ := V
 refine ai 3 rfl ?_
 refine wR 1 [(1, .o (iI iv.i.op)), (2, .o (.bool (alV iv.i.op))), (6, .o (.slice I iv.args.length J)), (12, .o (iI iv.i.op)), (16, .o (.slice I iv.args.length J))] 15 35 [] [(35, (.bool (((!(alV iv.i.op)) || (decide ((6 : Int) < (iv.args.length : Int)))) || ((iv.i.op != 6) && (decide ((0 : Int) < (iv.args.length : Int)))))))] (vA (ql 3 0 (HS.hc V (i := 2) rfl) rfl rfl) (vA (m1.valw_c_q ex iv.i.op H8) (vA (fun (A : (!(alV iv.i.op)) = false) => (ql 25 5 (HS.hc V (i := 1) rfl) rfl rfl)) (vA (fun (A : ((!(alV iv.i.op)) || (decide ((6 : Int) < (iv.args.length : Int)))) = false) => (ql 3 0 (HS.hc V (i := 2) rfl) rfl rfl)) (vA (fun (A : (iv.i.op != 6) = true) (U : ((!(alV iv.i.op)) || (decide ((6 : Int) < (iv.args.length : Int)))) = false) => (ql 25 5 (HS.hc V (i := 1) rfl) rfl rfl)) trivial))))) rfl fun _ => ?_
 refine aj 1 2 (v := (((!(alV iv.i.op)) || (decide ((6 : Int) < (iv.args.length : Int)))) || ((iv.i.op != 6) && (decide ((0 : Int) < (iv.args.length : Int)))))) rfl rfl rfl rfl (fun ar => ?_) (fun ar => ?_)
 ·
  try simp only [BS] at ar
  have hbad := ar
  refine wR 1 [] 4 4 [] [(4, (.bool false))] trivial rfl fun _ => ?_
  refine ah ⟨.inr rfl, _, rfl, false, _, fR, (HS.forget V), rfl, (by exact vin_bad hbad)⟩
 ·
  try simp only [BS] at ar
  have hal : alV iv.i.op = true := (ar).1.1
  have h6 : iv.i.op = 6 ∨ iv.args.length = 0 := by omega
  have c0 : iv.args.length ≤ 6 := by omega
  refine wR 3 [] 36 36 [6] [(6, (.func (.func 82) #[] #[(.pointer (some ⟨b1, 0, none⟩))]))] trivial rfl fun _ => ?_
  refine wR 2 [(1, .o (.slice I iv.args.length J))] 37 40 [] [(38, (.slice I iv.args.length J)), (39, (iI (iv.args.length : Int))), (40, (iI 0))] (vA (ql 25 5 (HS.hc V (i := 1) rfl) rfl rfl) trivial) rfl fun _ => ?_
  refine aE (fun (mm : Nat) f H' => ∃ (k : Nat) (F' : Fz), Fz.le F F' ∧ HS (Base.of H []) F' H' [c3, c4, c6] R ∧ aS f [(2, (.pointer (some ⟨b1, 0, none⟩))), (5, (.pointer (some ⟨b6, 0, none⟩))), (6, (.func (.func 82) #[] #[(.pointer (some ⟨b1, 0, none⟩))])), (38, (.slice I iv.args.length J)), (39, (iI (iv.args.length : Int))), (40, (iI (k : Int)))] ∧ mm = iv.args.length - k ∧ (k ≤ iv.args.length) ∧ (∀ j, j < k → aH c.regs (iv.args.getD j default) = true)) _ ⟨0, _, fR, V, ⟨rfl, rfl, rfl, rfl, rfl, rfl, trivial⟩, rfl, (by omega), (by exact bQ)⟩ ?_
  rintro et e1 c8 ⟨k, ez, E, O, b9, rfl, hk, ha⟩ c7
  refine aF _ b9 (fun _ => ?_)
  clear b9
  replace hT := hT.mono E
  replace ad := ad.mono E
  refine ao 1 rfl ?_
  refine wR 2 [] 41 41 [] [(41, (.bool (decide ((k : Int) < (iv.args.length : Int)))))] trivial rfl fun _ => ?_
  refine aj 4 5 (v := (decide ((k : Int) < (iv.args.length : Int)))) rfl rfl rfl rfl (fun a5 => ?_) (fun a5 => ?_)
  ·
   try simp only [BS] at a5
   obtain ⟨eb, co⟩ := Sv.view (SR.sv ad O)
   have e3 := fI (co k)
   refine wR 2 [(1, .o (iI (iv.args.getD k 0)))] 42 43 [8] [(8, (iI (iv.args.getD k 0)))] (vA (Sv.ix (j := (k : Int)) (SR.sv ad O) (by omega) (by omega)) (vA (ql 3 0 (vI (co k) (by omega)) rfl rfl) trivial)) rfl fun _ => ?_
   refine wR 1 [(2, .o (.bool (aH c.regs (iv.args.getD k 0))))] 44 47 [] [(47, (.bool (!(aH c.regs (iv.args.getD k 0)))))] (vA (gy ex (iv.args.getD k 0) c c8 (by omega) (HS.hc O (i := 0) rfl) (by omega) (by omega)) trivial) rfl fun _ => ?_
   refine aj 1 2 (v := (!(aH c.regs (iv.args.getD k 0)))) rfl rfl rfl rfl (fun a2 => ?_) (fun a2 => ?_)
   ·
    try simp only [BS] at a2
    have dd := a2
    refine wR 1 [] 4 4 [] [(4, (.bool false))] trivial rfl fun _ => ?_
    refine ah ⟨.inr rfl, _, rfl, false, _, (E), (HS.forget O), rfl, (by exact vin_no (cr (by omega) dd))⟩
   ·
    try simp only [BS] at a2
    refine wR 1 [] 40 40 [48] [(40, (iI ((k : Int) + 1)))] (vA (vi (n := (k : Int) + 1) (by omega)) trivial) rfl fun _ => ?_
    refine c7 _ _ _ ?_ ⟨k + 1, _, (E), O, ⟨rfl, rfl, rfl, rfl, rfl, rfl, trivial⟩, rfl, (by omega), (by exact bj ha (by assumption))⟩
    omega
  ·
   try simp only [BS] at a5
   have hall := cu ha (by omega)
   refine wR 3 [] 1 0 [9, 10, 11, 12] [(9, (.bool false)), (10, (.bool false)), (11, (.bool false)), (12, (.bool false))] trivial rfl fun _ => ?_
   refine ab ?_
   refine wRo 2 0 [(1, .o (iI iv.i.op))] 49 50 [] [(50, (iI iv.i.op))] (vA (ql 3 0 (HS.hc O (i := 2) rfl) rfl rfl) trivial) rfl fun _ => ?_
   refine aC (aw rfl rfl rfl) rfl rfl (vform_c ex iv.i.op (HS.call O) (by omega) hT) ?_
   rintro _ aq ⟨e4, e0, T, z, rfl, rfl⟩
   replace z := HS.back O rfl z
   have z : HS _ _ _ [_, _, _] _ := z
   refine ai 3 rfl ?_
   refine wR 1 [] 52 53 [] [(52, (.bool (ay iv.i.op == 2)))] trivial rfl fun _ => ?_
   refine dp (fun f H' => ∃ (av : Bool) (bv : Bool) (dv : Bool) (nv : Bool), H' = aq ∧ aS f [(2, (.pointer (some ⟨b1, 0, none⟩))), (5, (.pointer (some ⟨b6, 0, none⟩))), (6, (.func (.func 82) #[] #[(.pointer (some ⟨b1, 0, none⟩))])), (9, (.bool av)), (10, (.bool bv)), (11, (.bool dv)), (12, (.bool nv))] ∧ (av = decide (ay iv.i.op ≠ 1)) ∧ (bv = decide (ay iv.i.op = 3 ∨ ay iv.i.op = 4 ∨ ay iv.i.op = 7)) ∧ (dv = decide (ay iv.i.op = 4)) ∧ (nv = decide (ay iv.i.op = 5 ∨ ay iv.i.op = 7))) (fun Z => ?_) ?_
   ·
    refine aj 0 1 (v := (ay iv.i.op == 2)) rfl rfl rfl rfl (fun a6 => ?_) (fun a6 => ?_)
    ·
     try simp only [BS] at a6
     refine wR 0 [] 1 0 [9] [(9, (.bool true))] trivial rfl fun _ => ?_
     exact Z _ _ ⟨true, false, false, false, rfl, ⟨rfl, rfl, rfl, rfl, rfl, rfl, rfl, trivial⟩, (by (symm; apply decide_eq_true; omega)), (by (symm; apply decide_eq_false; have hf := aY hal; omega)), (by (symm; apply decide_eq_false; have hf := aY hal; omega)), (by (symm; apply decide_eq_false; have hf := aY hal; omega))⟩
    ·
     try simp only [BS] at a6
     refine wR 1 [] 54 55 [] [(54, (.bool (ay iv.i.op == 3)))] trivial rfl fun _ => ?_
     refine aj 0 1 (v := (ay iv.i.op == 3)) rfl rfl rfl rfl (fun a7 => ?_) (fun a7 => ?_)
     ·
      try simp only [BS] at a7
      refine wR 0 [] 1 0 [9, 10] [(9, (.bool true)), (10, (.bool true))] trivial rfl fun _ => ?_
      exact Z _ _ ⟨true, true, false, false, rfl, ⟨rfl, rfl, rfl, rfl, rfl, rfl, rfl, trivial⟩, (by (symm; apply decide_eq_true; omega)), (by (symm; apply decide_eq_true; omega)), (by (symm; apply decide_eq_false; have hf := aY hal; omega)), (by (symm; apply decide_eq_false; have hf := aY hal; omega))⟩
     ·
      try simp only [BS] at a7
      refine wR 1 [] 56 57 [] [(56, (.bool (ay iv.i.op == 4)))] trivial rfl fun _ => ?_
      refine aj 0 1 (v := (ay iv.i.op == 4)) rfl rfl rfl rfl (fun a8 => ?_) (fun a8 => ?_)
      ·
       try simp only [BS] at a8
       refine wR 0 [] 1 0 [9, 10, 11] [(9, (.bool true)), (10, (.bool true)), (11, (.bool true))] trivial rfl fun _ => ?_
       exact Z _ _ ⟨true, true, true, false, rfl, ⟨rfl, rfl, rfl, rfl, rfl, rfl, rfl, trivial⟩, (by (symm; apply decide_eq_true; omega)), (by (symm; apply decide_eq_true; omega)), (by (symm; apply decide_eq_true; omega)), (by (symm; apply decide_eq_false; have hf := aY hal; omega))⟩
      ·
       try simp only [BS] at a8
       refine wR 1 [] 58 59 [] [(58, (.bool (ay iv.i.op == 5)))] trivial rfl fun _ => ?_
       refine aj 0 1 (v := (ay iv.i.op == 5)) rfl rfl rfl rfl (fun a9 => ?_) (fun a9 => ?_)
       ·
        try simp only [BS] at a9
        refine wR 0 [] 1 0 [9, 12] [(9, (.bool true)), (12, (.bool true))] trivial rfl fun _ => ?_
        exact Z _ _ ⟨true, false, false, true, rfl, ⟨rfl, rfl, rfl, rfl, rfl, rfl, rfl, trivial⟩, (by (symm; apply decide_eq_true; omega)), (by (symm; apply decide_eq_false; have hf := aY hal; omega)), (by (symm; apply decide_eq_false; have hf := aY hal; omega)), (by (symm; apply decide_eq_true; omega))⟩
       ·
        try simp only [BS] at a9
        refine wR 1 [] 60 61 [] [(60, (.bool (ay iv.i.op == 7)))] trivial rfl fun _ => ?_
        refine aj 0 0 (v := (ay iv.i.op == 7)) rfl rfl rfl rfl (fun bb => ?_) (fun bb => ?_)
        ·
         try simp only [BS] at bb
         refine wR 0 [] 1 0 [9, 10, 12] [(9, (.bool true)), (10, (.bool true)), (12, (.bool true))] trivial rfl fun _ => ?_
         exact Z _ _ ⟨true, true, false, true, rfl, ⟨rfl, rfl, rfl, rfl, rfl, rfl, rfl, trivial⟩, (by (symm; apply decide_eq_true; omega)), (by (symm; apply decide_eq_true; omega)), (by (symm; apply decide_eq_false; have hf := aY hal; omega)), (by (symm; apply decide_eq_true; omega))⟩
        ·
         try simp only [BS] at bb
         exact Z _ _ ⟨false, false, false, false, rfl, ⟨rfl, rfl, rfl, rfl, rfl, rfl, rfl, trivial⟩, (by (symm; apply decide_eq_false; have hf := aY hal; omega)), (by (symm; apply decide_eq_false; have hf := aY hal; omega)), (by (symm; apply decide_eq_false; have hf := aY hal; omega)), (by (symm; apply decide_eq_false; have hf := aY hal; omega))⟩
   ·
    rintro e2 aq ⟨av, bv, dv, nv, rfl, cd, hav, hbv, hdv, hnv⟩
    refine aF _ cd (fun _ => ?_)
    clear cd
    refine ao 4 rfl ?_
    refine wR 1 [(4, .o (iI iv.i.a)), (5, .o (.bool (aH c.regs iv.i.a))), (13, .o (iI iv.i.b)), (14, .o (.bool (aH c.regs iv.i.b))), (23, .o (iI iv.i.c)), (24, .o (.bool (aH c.regs iv.i.c))), (33, .o (iI iv.i.a)), (42, .o (iI iv.i.b)), (51, .o (iI iv.i.c)), (60, .o (iI iv.i.n))] 62 125 [] [(125, (.bool (((((((av && (!(aH c.regs iv.i.a))) || (bv && (!(aH c.regs iv.i.b)))) || (dv && (!(aH c.regs iv.i.c)))) || ((!av) && (iv.i.a != 0))) || ((!bv) && (iv.i.b != 0))) || ((!dv) && (iv.i.c != 0))) || ((!nv) && (iv.i.n != 0)))))] (vA (fun (A : av = true) => (ql 3 1 (HS.hc z (i := 2) rfl) rfl rfl)) (vA (fun (A : av = true) => (gy ex iv.i.a c aq (by (try simp only [BS] at A); omega) (HS.hc z (i := 0) rfl) (by (try simp only [BS] at A); omega) (by (try simp only [BS] at A); omega))) (vA (fun (A : bv = true) (U : (av && (!(aH c.regs iv.i.a))) = false) => (ql 3 2 (HS.hc z (i := 2) rfl) rfl rfl)) (vA (fun (A : bv = true) (U : (av && (!(aH c.regs iv.i.a))) = false) => (gy ex iv.i.b c aq (by (try simp only [BS] at A U); omega) (HS.hc z (i := 0) rfl) (by (try simp only [BS] at A U); omega) (by (try simp only [BS] at A U); omega))) (vA (fun (A : dv = true) (U : ((av && (!(aH c.regs iv.i.a))) || (bv && (!(aH c.regs iv.i.b)))) = false) => (ql 3 3 (HS.hc z (i := 2) rfl) rfl rfl)) (vA (fun (A : dv = true) (U : ((av && (!(aH c.regs iv.i.a))) || (bv && (!(aH c.regs iv.i.b)))) = false) => (gy ex iv.i.c c aq (by (try simp only [BS] at A U); omega) (HS.hc z (i := 0) rfl) (by (try simp only [BS] at A U); omega) (by (try simp only [BS] at A U); omega))) (vA (fun (A : (!av) = true) (U : (((av && (!(aH c.regs iv.i.a))) || (bv && (!(aH c.regs iv.i.b)))) || (dv && (!(aH c.regs iv.i.c)))) = false) => (ql 3 1 (HS.hc z (i := 2) rfl) rfl rfl)) (vA (fun (A : (!bv) = true) (U : ((((av && (!(aH c.regs iv.i.a))) || (bv && (!(aH c.regs iv.i.b)))) || (dv && (!(aH c.regs iv.i.c)))) || ((!av) && (iv.i.a != 0))) = false) => (ql 3 2 (HS.hc z (i := 2) rfl) rfl rfl)) (vA (fun (A : (!dv) = true) (U : (((((av && (!(aH c.regs iv.i.a))) || (bv && (!(aH c.regs iv.i.b)))) || (dv && (!(aH c.regs iv.i.c)))) || ((!av) && (iv.i.a != 0))) || ((!bv) && (iv.i.b != 0))) = false) => (ql 3 3 (HS.hc z (i := 2) rfl) rfl rfl)) (vA (fun (A : (!nv) = true) (U : ((((((av && (!(aH c.regs iv.i.a))) || (bv && (!(aH c.regs iv.i.b)))) || (dv && (!(aH c.regs iv.i.c)))) || ((!av) && (iv.i.a != 0))) || ((!bv) && (iv.i.b != 0))) || ((!dv) && (iv.i.c != 0))) = false) => (ql 2 4 (HS.hc z (i := 2) rfl) rfl rfl)) trivial)))))))))) rfl fun _ => ?_
    refine aj 1 3 (v := (((((((av && (!(aH c.regs iv.i.a))) || (bv && (!(aH c.regs iv.i.b)))) || (dv && (!(aH c.regs iv.i.c)))) || ((!av) && (iv.i.a != 0))) || ((!bv) && (iv.i.b != 0))) || ((!dv) && (iv.i.c != 0))) || ((!nv) && (iv.i.n != 0)))) rfl rfl rfl rfl (fun ag => ?_) (fun ag => ?_)
    ·
     have bl := ag
     try simp only [BS] at bl
     have dk := ag
     refine wR 1 [] 4 4 [] [(4, (.bool false))] trivial rfl fun _ => ?_
     refine ah ⟨.inr rfl, _, rfl, false, _, (fT (E) T), (HS.forget z), rfl, (by exact vin_bad3v hal h6 c0 hall hav hbv hdv hnv dk)⟩
    ·
     have bl := ag
     try simp only [BS] at bl
     have hgood := vin_good3v (params := c.params) hal h6 c0 hall hav hbv hdv hnv ag
     refine wR 3 [(1, .o (iI iv.i.op))] 126 127 [] [(127, (iI iv.i.op))] (vA (ql 3 0 (HS.hc z (i := 2) rfl) rfl rfl) trivial) rfl fun _ => ?_
     refine wR 1 [] 128 129 [] [(128, (.bool (iv.i.op == 33)))] trivial rfl fun _ => ?_
     refine aj 1 1 (v := (iv.i.op == 33)) rfl rfl rfl rfl (fun b0 => ?_) (fun b0 => ?_)
     ·
      try simp only [BS] at b0
      refine wR 1 [(1, .o (iI iv.i.n)), (5, .o (iI iv.i.n))] 130 137 [4] [(4, (.bool ((decide ((-4194304 : Int) ≤ iv.i.n)) && (decide (iv.i.n < 4194304)))))] (vA (ql 2 4 (HS.hc z (i := 2) rfl) rfl rfl) (vA (fun (A : (decide ((-4194304 : Int) ≤ iv.i.n)) = true) => (ql 2 4 (HS.hc z (i := 2) rfl) rfl rfl)) trivial)) rfl fun _ => ?_
      refine ah ⟨.inr rfl, _, rfl, ((decide ((-4194304 : Int) ≤ iv.i.n)) && (decide (iv.i.n < 4194304))), _, (fT (E) T), (HS.forget z), rfl, (by rw [hgood.1]; first | exact (dr hal hgood.2 (by omega) (by omega) (by omega) (by omega)).symm | (unfold gq; (repeat' split) <;> first | omega | rfl | (rw [Bool.eq_iff_iff] <;> simp)))⟩
     ·
      try simp only [BS] at b0
      refine wR 1 [] 138 139 [] [(138, (.bool (iv.i.op == 6)))] trivial rfl fun _ => ?_
      refine aj 1 2 (v := (iv.i.op == 6)) rfl rfl rfl rfl (fun b2 => ?_) (fun b2 => ?_)
      ·
       try simp only [BS] at b2
       refine wR 1 [(1, .o (iI iv.i.n)), (5, .o (iI iv.i.n))] 140 147 [4] [(4, (.bool ((decide ((0 : Int) ≤ iv.i.n)) && (decide (iv.i.n < 8)))))] (vA (ql 2 4 (HS.hc z (i := 2) rfl) rfl rfl) (vA (fun (A : (decide ((0 : Int) ≤ iv.i.n)) = true) => (ql 2 4 (HS.hc z (i := 2) rfl) rfl rfl)) trivial)) rfl fun _ => ?_
       refine ah ⟨.inr rfl, _, rfl, ((decide ((0 : Int) ≤ iv.i.n)) && (decide (iv.i.n < 8))), _, (fT (E) T), (HS.forget z), rfl, (by rw [hgood.1]; first | exact (dr hal hgood.2 (by omega) (by omega) (by omega) (by omega)).symm | (unfold gq; (repeat' split) <;> first | omega | rfl | (rw [Bool.eq_iff_iff] <;> simp)))⟩
      ·
       try simp only [BS] at b2
       refine wR 1 [] 148 149 [] [(148, (.bool (iv.i.op == 34)))] trivial rfl fun _ => ?_
       refine aj 1 0 (v := (iv.i.op == 34)) rfl rfl rfl rfl (fun ap => ?_) (fun ap => ?_)
       ·
        have b4 := ap
        try simp only [BS] at b4
        refine aX 1 (v := (iv.i.op == 34)) rfl ap rfl rfl ?_
        refine wR 1 [(1, .o (iI iv.i.n)), (5, .o (iI iv.i.n))] 151 158 [4] [(4, (.bool ((decide ((0 : Int) ≤ iv.i.n)) && (decide (iv.i.n < 4)))))] (vA (ql 2 4 (HS.hc z (i := 2) rfl) rfl rfl) (vA (fun (A : (decide ((0 : Int) ≤ iv.i.n)) = true) => (ql 2 4 (HS.hc z (i := 2) rfl) rfl rfl)) trivial)) rfl fun _ => ?_
        refine ah ⟨.inr rfl, _, rfl, ((decide ((0 : Int) ≤ iv.i.n)) && (decide (iv.i.n < 4))), _, (fT (E) T), (HS.forget z), rfl, (by rw [hgood.1]; first | exact (dr hal hgood.2 (by omega) (by omega) (by omega) (by omega)).symm | (unfold gq; (repeat' split) <;> first | omega | rfl | (rw [Bool.eq_iff_iff] <;> simp)))⟩
       ·
        have b4 := ap
        try simp only [BS] at b4
        refine wR 1 [] 148 150 [] [(148, (.bool (iv.i.op == 35)))] trivial rfl fun _ => ?_
        refine aj 1 1 (v := (iv.i.op == 35)) rfl rfl rfl rfl (fun b5 => ?_) (fun b5 => ?_)
        ·
         try simp only [BS] at b5
         refine wR 1 [(1, .o (iI iv.i.n)), (5, .o (iI iv.i.n))] 151 158 [4] [(4, (.bool ((decide ((0 : Int) ≤ iv.i.n)) && (decide (iv.i.n < 4)))))] (vA (ql 2 4 (HS.hc z (i := 2) rfl) rfl rfl) (vA (fun (A : (decide ((0 : Int) ≤ iv.i.n)) = true) => (ql 2 4 (HS.hc z (i := 2) rfl) rfl rfl)) trivial)) rfl fun _ => ?_
         refine ah ⟨.inr rfl, _, rfl, ((decide ((0 : Int) ≤ iv.i.n)) && (decide (iv.i.n < 4))), _, (fT (E) T), (HS.forget z), rfl, (by rw [hgood.1]; first | exact (dr hal hgood.2 (by omega) (by omega) (by omega) (by omega)).symm | (unfold gq; (repeat' split) <;> first | omega | rfl | (rw [Bool.eq_iff_iff] <;> simp)))⟩
        ·
         try simp only [BS] at b5
         refine wR 1 [] 159 160 [] [(159, (.bool (iv.i.op == 38)))] trivial rfl fun _ => ?_
         refine aj 1 3 (v := (iv.i.op == 38)) rfl rfl rfl rfl (fun b7 => ?_) (fun b7 => ?_)
         ·
          try simp only [BS] at b7
          refine wR 1 [(1, .o (iI iv.i.n)), (5, .o (iI iv.i.n)), (7, .o (iI c.params))] 161 170 [4] [(4, (.bool ((decide ((0 : Int) ≤ iv.i.n)) && (decide (iv.i.n < c.params)))))] (vA (ql 2 4 (HS.hc z (i := 2) rfl) rfl rfl) (vA (fun (A : (decide ((0 : Int) ≤ iv.i.n)) = true) => (ql 2 4 (HS.hc z (i := 2) rfl) rfl rfl)) (vA (fun (A : (decide ((0 : Int) ≤ iv.i.n)) = true) => (ql 3 0 (HS.hc z (i := 0) rfl) rfl rfl)) trivial))) rfl fun _ => ?_
          refine ah ⟨.inr rfl, _, rfl, ((decide ((0 : Int) ≤ iv.i.n)) && (decide (iv.i.n < c.params))), _, (fT (E) T), (HS.forget z), rfl, (by rw [hgood.1]; first | exact (dr hal hgood.2 (by omega) (by omega) (by omega) (by omega)).symm | (unfold gq; (repeat' split) <;> first | omega | rfl | (rw [Bool.eq_iff_iff] <;> simp)))⟩
         ·
          try simp only [BS] at b7
          refine wR 1 [] 4 4 [] [(4, (.bool true))] trivial rfl fun _ => ?_
          refine ah ⟨.inr rfl, _, rfl, true, _, (fT (E) T), (HS.forget z), rfl, (by rw [hgood.1]; first | exact (dr hal hgood.2 (by omega) (by omega) (by omega) (by omega)).symm | (unfold gq; (repeat' split) <;> first | omega | rfl | (rw [Bool.eq_iff_iff] <;> simp)))⟩
set_option maxHeartbeats 1000000 in
theorem rinstr_c (ex : FuncId) {J : Option Addr} {O : Nat} (iv : VInT) {ap : Option Addr} {ar : Nat} (c : VFnT) {F : Fz} {H : Heap} {R : List Fp} (hs : HS (.of H []) F H [] R) (c5 : in64 iv.i.op) (c6 : in64 iv.i.a) (c7 : in64 iv.i.b) (c8 : in64 iv.i.c) (c9 : in64 iv.i.n) (U : SR F (.slice J iv.args.length O) iv.args) (dl : in64 c.params) (dn : in64 c.regs) (ds : SR F (.slice ap c.blocks.length ar) c.blocks) (hT : TB 37 tabC F) : C Tryd.prog 1 (KT 60 ex 37 tabC) 71 [(.agg ⟨[(iI iv.i.op), (iI iv.i.a), (iI iv.i.b), (iI iv.i.c), (iI iv.i.n), (.slice J iv.args.length O)]⟩), (.agg ⟨[(iI c.params), (iI c.regs), (.slice ap c.blocks.length ar)]⟩)] H fun v H' => ∃ (r : Bool) (F' : Fz), Fz.le F F' ∧ HS (.of H []) F' H' [] R ∧ v = .bool r ∧ r = ey c.params c.regs iv := by
 refine aJ Tryd.func71 rfl rfl ?_
 refine ao 1 rfl ?_
 refine ab ?_
 refine aP (b8 hs rfl rfl) rfl rfl ?_
 rintro _ H2 _ ⟨b1, rfl, bl, _⟩
 let b4 : Fp := [(b1, .cells [(iI iv.i.op), (iI iv.i.a), (iI iv.i.b), (iI iv.i.c), (iI iv.i.n), (.slice J iv.args.length O)] none false)]
 have bl : HS _ _ _ [b4] _ := bl
 refine aP (b8 bl rfl rfl) rfl rfl ?_
 rintro _ H4 _ ⟨b3, rfl, av, _⟩
 let b5 : Fp := [(b3, .cells [(iI c.params), (iI c.regs), (.slice ap c.blocks.length ar)] none false)]
 have av : HS _ _ _ [_, b5] _ := av
 refine wa (.bool false) rfl rfl rfl ?_
 refine ai 2 rfl ?_
 refine ab ?_
 let b7 : Value := (.agg ⟨[(iI iv.i.op), (iI iv.i.a), (iI iv.i.b), (iI iv.i.c), (iI iv.i.n)]⟩)
 refine wRo 2 0 [(1, .o b7)] 10 11 [] [(11, b7)] (vA (qn 45 0 5 (HS.hc av (i := 0) rfl) rfl rfl rfl rfl) trivial) rfl fun _ => ?_
 refine aP (bp av rfl) rfl rfl ?_
 rintro _ H7 _ ⟨b6, rfl, b0, _⟩
 have b0 : HS _ _ _ [_, _, [(b6, .cells [(iI 0), (iI 0), (iI 0), (iI 0), (iI 0)] none false)]] _ := b0
 refine aD (ax (q := 2) b0 rfl rfl rfl rfl rfl rfl rfl rfl rfl) rfl ?_
 rintro _ H8 _ ⟨V, _⟩
 let b9 : Fp := [(b6, .cells [(iI iv.i.op), (iI iv.i.a), (iI iv.i.b), (iI iv.i.c), (iI iv.i.n)] none false)]
 have V : HS _ _ _ [_, _, b9] _ := V
 refine ai 3 rfl ?_
 refine wR 1 [(1, .o (iI iv.i.op)), (2, .o (.bool (alV iv.i.op))), (6, .o (iI iv.i.op)), (10, .o (.slice J iv.args.length O)), (17, .o (.slice J iv.args.length O))] 12 32 [] [(32, (.bool (((!(alV iv.i.op)) || ((iv.i.op != 6) && (decide ((0 : Int) < (iv.args.length : Int))))) || (decide ((6 : Int) < (iv.args.length : Int))))))] (vA (ql 3 0 (HS.hc V (i := 2) rfl) rfl rfl) (vA (m1.ralw_c_q ex iv.i.op H8) (vA (fun (A : (!(alV iv.i.op)) = false) => (ql 3 0 (HS.hc V (i := 2) rfl) rfl rfl)) (vA (fun (A : (iv.i.op != 6) = true) (g2 : (!(alV iv.i.op)) = false) => (ql 25 5 (HS.hc V (i := 0) rfl) rfl rfl)) (vA (fun (A : ((!(alV iv.i.op)) || ((iv.i.op != 6) && (decide ((0 : Int) < (iv.args.length : Int))))) = false) => (ql 25 5 (HS.hc V (i := 0) rfl) rfl rfl)) trivial))))) rfl fun _ => ?_
 refine aj 1 3 (v := (((!(alV iv.i.op)) || ((iv.i.op != 6) && (decide ((0 : Int) < (iv.args.length : Int))))) || (decide ((6 : Int) < (iv.args.length : Int))))) rfl rfl rfl rfl (fun ag => ?_) (fun ag => ?_)
 ·
  try simp only [BS] at ag
  have hbad := ag
  refine wR 1 [] 4 4 [] [(4, (.bool false))] trivial rfl fun _ => ?_
  refine ah ⟨.inr rfl, _, rfl, false, _, fR, (HS.forget V), rfl, (by exact vin_bad2 hbad)⟩
 ·
  try simp only [BS] at ag
  have hal : alV iv.i.op = true := (ag).1.1
  have h6 : iv.i.op = 6 ∨ iv.args.length = 0 := by omega
  have b2 : iv.args.length ≤ 6 := by omega
  refine wR 2 [] 1 0 [6] [(6, (iI 0))] trivial rfl fun _ => ?_
  refine aE (fun (mm : Nat) f H' => ∃ (k : Nat) (F' : Fz), Fz.le F F' ∧ HS (Base.of H []) F' H' [b4, b5, b9] R ∧ aS f [(2, (.pointer (some ⟨b1, 0, none⟩))), (3, (.pointer (some ⟨b3, 0, none⟩))), (5, (.pointer (some ⟨b6, 0, none⟩))), (6, (iI (k : Int)))] ∧ mm = iv.args.length - k ∧ (k ≤ iv.args.length) ∧ (∀ j, j < k → aH c.regs (iv.args.getD j default) = true)) _ ⟨0, _, fR, V, ⟨rfl, rfl, rfl, rfl, trivial⟩, rfl, (by omega), (by exact bQ)⟩ ?_
  rintro dt ea d2 ⟨k, dv, E, I, bb, rfl, hk, ha⟩ ch
  refine aF _ bb (fun _ => ?_)
  clear bb
  replace hT := hT.mono E
  replace U := U.mono E
  refine ao 2 rfl ?_
  refine wR 1 [(2, .o (.slice J iv.args.length O))] 33 37 [] [(37, (.bool (decide ((k : Int) < (iv.args.length : Int)))))] (vA (ql 25 5 (HS.hc I (i := 0) rfl) rfl rfl) trivial) rfl fun _ => ?_
  refine aj 4 5 (v := (decide ((k : Int) < (iv.args.length : Int)))) rfl rfl rfl rfl (fun a1 => ?_) (fun a1 => ?_)
  ·
   try simp only [BS] at a1
   obtain ⟨dk, aq⟩ := Sv.view (SR.sv U I)
   have eb := fI (aq k)
   refine wRD 1 [(1, .o (.slice J iv.args.length O)), (4, .o (iI (iv.args.getD k 0))), (8, .o (.slice J iv.args.length O)), (11, .o (iI (iv.args.getD k 0))), (13, .o (iI c.regs))] 40 55 [] [(55, (.bool ((decide ((iv.args.getD k 0) < 0)) || (decide (c.regs ≤ (iv.args.getD k 0))))))] (vA (ql 25 5 (hc0 (HS.hc I (i := 0) rfl)) rfl rfl) (vA (Sv.ix (j := (k : Int)) (SR.sv U I) (by omega) (by omega)) (vA (ql 3 0 (hc0 (vI (aq k) (by omega))) rfl rfl) (vA (fun (A : (decide ((iv.args.getD k 0) < 0)) = false) => (ql 25 5 (hc0 (HS.hc I (i := 0) rfl)) rfl rfl)) (vA (fun (A : (decide ((iv.args.getD k 0) < 0)) = false) => (Sv.ix (j := (k : Int)) (SR.sv U I) (by (try simp only [BS] at A); omega) (by (try simp only [BS] at A); omega))) (vA (fun (A : (decide ((iv.args.getD k 0) < 0)) = false) => (ql 3 0 (hc0 (vI (aq k) (by (try simp only [BS] at A); omega))) rfl rfl)) (vA (fun (A : (decide ((iv.args.getD k 0) < 0)) = false) => (ql 3 1 (hc0 (HS.hc I (i := 1) rfl)) rfl rfl)) trivial))))))) rfl rfl fun _ => ?_
   refine aj 1 2 (v := ((decide ((iv.args.getD k 0) < 0)) || (decide (c.regs ≤ (iv.args.getD k 0))))) rfl rfl rfl rfl (fun a2 => ?_) (fun a2 => ?_)
   ·
    try simp only [BS] at a2
    refine wR 1 [] 4 4 [] [(4, (.bool false))] trivial rfl fun _ => ?_
    refine ah ⟨.inr rfl, _, rfl, false, _, (E), (HS.forget I), rfl, (by exact vin_no (cr (k := k) (by omega) (gm.2 (show ¬ (0 ≤ iv.args.getD k 0 ∧ iv.args.getD k 0 < c.regs) by omega))))⟩
   ·
    try simp only [BS] at a2
    refine wR 1 [] 38 39 [6] [(6, (iI ((k : Int) + 1)))] (vA (vi (n := (k : Int) + 1) (by omega)) trivial) rfl fun _ => ?_
    refine ch _ _ _ ?_ ⟨k + 1, _, (E), I, ⟨rfl, rfl, rfl, rfl, trivial⟩, rfl, (by omega), (by exact bj ha (br.2 (show 0 ≤ iv.args.getD k 0 ∧ iv.args.getD k 0 < c.regs by omega)))⟩
    omega
  ·
   try simp only [BS] at a1
   have hall := cu ha (by omega)
   refine ab ?_
   refine wRo 2 0 [(1, .o (iI iv.i.op))] 56 57 [] [(57, (iI iv.i.op))] (vA (ql 3 0 (HS.hc I (i := 2) rfl) rfl rfl) trivial) rfl fun _ => ?_
   refine aC (aw rfl rfl rfl) rfl rfl (rinfo_c ex iv.i.op (HS.call I) (by omega) hT) ?_
   rintro _ a0 ⟨ec, d1, T, z, rfl, ci, co, rfl⟩
   replace z := HS.back I rfl z
   have z : HS _ _ _ [_, _, _] _ := z
   refine wRo 2 3 [] 59 59 [7] [(7, (iI (bm iv.i.op).form))] trivial rfl fun _ => ?_
   refine ai 2 rfl ?_
   refine wR 2 [] 60 61 [8] [(8, (.bool ((bm iv.i.op).form != 1)))] trivial rfl fun _ => ?_
   refine wR 3 [] 62 71 [9] [(9, (.bool ((((bm iv.i.op).form == 3) || ((bm iv.i.op).form == 4)) || ((bm iv.i.op).form == 7))))] trivial rfl fun _ => ?_
   refine wR 1 [(2, .o (iI iv.i.a)), (4, .o (iI c.regs)), (5, .o (.bool (dq ((bm iv.i.op).form != 1) iv.i.a c.regs))), (10, .o (iI iv.i.b)), (12, .o (iI c.regs)), (13, .o (.bool (dq ((((bm iv.i.op).form == 3) || ((bm iv.i.op).form == 4)) || ((bm iv.i.op).form == 7)) iv.i.b c.regs))), (20, .o (iI iv.i.c)), (22, .o (iI c.regs)), (23, .o (.bool (dq ((bm iv.i.op).form == 4) iv.i.c c.regs)))] 72 97 [] [(97, (.bool (((!(dq ((bm iv.i.op).form != 1) iv.i.a c.regs)) || (!(dq ((((bm iv.i.op).form == 3) || ((bm iv.i.op).form == 4)) || ((bm iv.i.op).form == 7)) iv.i.b c.regs))) || (!(dq ((bm iv.i.op).form == 4) iv.i.c c.regs)))))] (vA (ql 3 1 (HS.hc z (i := 2) rfl) rfl rfl) (vA (ql 3 1 (HS.hc z (i := 1) rfl) rfl rfl) (vA (eV ex ((bm iv.i.op).form != 1) iv.i.a c.regs a0 (by omega) (by omega)) (vA (fun (A : (!(dq ((bm iv.i.op).form != 1) iv.i.a c.regs)) = false) => (ql 3 2 (HS.hc z (i := 2) rfl) rfl rfl)) (vA (fun (A : (!(dq ((bm iv.i.op).form != 1) iv.i.a c.regs)) = false) => (ql 3 1 (HS.hc z (i := 1) rfl) rfl rfl)) (vA (fun (A : (!(dq ((bm iv.i.op).form != 1) iv.i.a c.regs)) = false) => (eV ex ((((bm iv.i.op).form == 3) || ((bm iv.i.op).form == 4)) || ((bm iv.i.op).form == 7)) iv.i.b c.regs a0 (by (try simp only [BS] at A); omega) (by (try simp only [BS] at A); omega))) (vA (fun (A : ((!(dq ((bm iv.i.op).form != 1) iv.i.a c.regs)) || (!(dq ((((bm iv.i.op).form == 3) || ((bm iv.i.op).form == 4)) || ((bm iv.i.op).form == 7)) iv.i.b c.regs))) = false) => (ql 3 3 (HS.hc z (i := 2) rfl) rfl rfl)) (vA (fun (A : ((!(dq ((bm iv.i.op).form != 1) iv.i.a c.regs)) || (!(dq ((((bm iv.i.op).form == 3) || ((bm iv.i.op).form == 4)) || ((bm iv.i.op).form == 7)) iv.i.b c.regs))) = false) => (ql 3 1 (HS.hc z (i := 1) rfl) rfl rfl)) (vA (fun (A : ((!(dq ((bm iv.i.op).form != 1) iv.i.a c.regs)) || (!(dq ((((bm iv.i.op).form == 3) || ((bm iv.i.op).form == 4)) || ((bm iv.i.op).form == 7)) iv.i.b c.regs))) = false) => (eV ex ((bm iv.i.op).form == 4) iv.i.c c.regs a0 (by (try simp only [BS] at A); omega) (by (try simp only [BS] at A); omega))) trivial))))))))) rfl fun _ => ?_
   refine aj 1 3 (v := (((!(dq ((bm iv.i.op).form != 1) iv.i.a c.regs)) || (!(dq ((((bm iv.i.op).form == 3) || ((bm iv.i.op).form == 4)) || ((bm iv.i.op).form == 7)) iv.i.b c.regs))) || (!(dq ((bm iv.i.op).form == 4) iv.i.c c.regs)))) rfl rfl rfl rfl (fun Z => ?_) (fun Z => ?_)
   ·
    have a3 := Z
    try simp only [BS] at a3
    have c4 := Z
    refine wR 1 [] 4 4 [] [(4, (.bool false))] trivial rfl fun _ => ?_
    refine ah ⟨.inr rfl, _, rfl, false, _, (fT (E) T), (HS.forget z), rfl, (by exact vin_rbad hal h6 b2 hall c4)⟩
   ·
    have a3 := Z
    try simp only [BS] at a3
    have hgood := vin_rgood (params := c.params) hal h6 b2 hall Z
    refine wR 3 [(1, .o (iI iv.i.op))] 98 99 [] [(99, (iI iv.i.op))] (vA (ql 3 0 (HS.hc z (i := 2) rfl) rfl rfl) trivial) rfl fun _ => ?_
    refine wR 1 [] 100 101 [] [(100, (.bool (iv.i.op == 13)))] trivial rfl fun _ => ?_
    refine aj 1 1 (v := (iv.i.op == 13)) rfl rfl rfl rfl (fun a4 => ?_) (fun a4 => ?_)
    ·
     try simp only [BS] at a4
     refine wR 1 [] 4 4 [] [(4, (.bool true))] trivial rfl fun _ => ?_
     refine ah ⟨.inr rfl, _, rfl, true, _, (fT (E) T), (HS.forget z), rfl, (by rw [hgood] <;> (first | exact (dr hal hgood.2 (by omega) (by omega) (by omega) (by omega)).symm | (unfold gq; (repeat' split) <;> first | omega | rfl | (rw [Bool.eq_iff_iff] <;> simp))))⟩
    ·
     try simp only [BS] at a4
     refine wR 1 [] 102 103 [] [(102, (.bool (iv.i.op == 33)))] trivial rfl fun _ => ?_
     refine aj 1 1 (v := (iv.i.op == 33)) rfl rfl rfl rfl (fun a5 => ?_) (fun a5 => ?_)
     ·
      try simp only [BS] at a5
      refine wR 1 [(1, .o (iI iv.i.n)), (5, .o (iI iv.i.n))] 104 111 [4] [(4, (.bool ((decide ((-4194304 : Int) ≤ iv.i.n)) && (decide (iv.i.n < 4194304)))))] (vA (ql 2 4 (HS.hc z (i := 2) rfl) rfl rfl) (vA (fun (A : (decide ((-4194304 : Int) ≤ iv.i.n)) = true) => (ql 2 4 (HS.hc z (i := 2) rfl) rfl rfl)) trivial)) rfl fun _ => ?_
      refine ah ⟨.inr rfl, _, rfl, ((decide ((-4194304 : Int) ≤ iv.i.n)) && (decide (iv.i.n < 4194304))), _, (fT (E) T), (HS.forget z), rfl, (by rw [hgood] <;> (first | exact (dr hal hgood.2 (by omega) (by omega) (by omega) (by omega)).symm | (unfold gq; (repeat' split) <;> first | omega | rfl | (rw [Bool.eq_iff_iff] <;> simp))))⟩
     ·
      try simp only [BS] at a5
      refine wR 1 [] 112 113 [] [(112, (.bool (iv.i.op == 6)))] trivial rfl fun _ => ?_
      refine aj 1 2 (v := (iv.i.op == 6)) rfl rfl rfl rfl (fun a6 => ?_) (fun a6 => ?_)
      ·
       try simp only [BS] at a6
       refine wR 1 [(1, .o (iI iv.i.n)), (5, .o (iI iv.i.n))] 114 121 [4] [(4, (.bool ((decide ((0 : Int) ≤ iv.i.n)) && (decide (iv.i.n < 8)))))] (vA (ql 2 4 (HS.hc z (i := 2) rfl) rfl rfl) (vA (fun (A : (decide ((0 : Int) ≤ iv.i.n)) = true) => (ql 2 4 (HS.hc z (i := 2) rfl) rfl rfl)) trivial)) rfl fun _ => ?_
       refine ah ⟨.inr rfl, _, rfl, ((decide ((0 : Int) ≤ iv.i.n)) && (decide (iv.i.n < 8))), _, (fT (E) T), (HS.forget z), rfl, (by rw [hgood] <;> (first | exact (dr hal hgood.2 (by omega) (by omega) (by omega) (by omega)).symm | (unfold gq; (repeat' split) <;> first | omega | rfl | (rw [Bool.eq_iff_iff] <;> simp))))⟩
      ·
       try simp only [BS] at a6
       refine wR 1 [] 122 123 [] [(122, (.bool (iv.i.op == 34)))] trivial rfl fun _ => ?_
       refine aj 1 0 (v := (iv.i.op == 34)) rfl rfl rfl rfl (fun ad => ?_) (fun ad => ?_)
       ·
        have a7 := ad
        try simp only [BS] at a7
        refine aX 1 (v := (iv.i.op == 34)) rfl ad rfl rfl ?_
        refine wR 1 [(1, .o (iI iv.i.n)), (5, .o (iI iv.i.n))] 125 132 [4] [(4, (.bool ((decide ((0 : Int) ≤ iv.i.n)) && (decide (iv.i.n < 4)))))] (vA (ql 2 4 (HS.hc z (i := 2) rfl) rfl rfl) (vA (fun (A : (decide ((0 : Int) ≤ iv.i.n)) = true) => (ql 2 4 (HS.hc z (i := 2) rfl) rfl rfl)) trivial)) rfl fun _ => ?_
        refine ah ⟨.inr rfl, _, rfl, ((decide ((0 : Int) ≤ iv.i.n)) && (decide (iv.i.n < 4))), _, (fT (E) T), (HS.forget z), rfl, (by rw [hgood] <;> (first | exact (dr hal hgood.2 (by omega) (by omega) (by omega) (by omega)).symm | (unfold gq; (repeat' split) <;> first | omega | rfl | (rw [Bool.eq_iff_iff] <;> simp))))⟩
       ·
        have a7 := ad
        try simp only [BS] at a7
        refine wR 1 [] 122 124 [] [(122, (.bool (iv.i.op == 35)))] trivial rfl fun _ => ?_
        refine aj 1 1 (v := (iv.i.op == 35)) rfl rfl rfl rfl (fun a8 => ?_) (fun a8 => ?_)
        ·
         try simp only [BS] at a8
         refine wR 1 [(1, .o (iI iv.i.n)), (5, .o (iI iv.i.n))] 125 132 [4] [(4, (.bool ((decide ((0 : Int) ≤ iv.i.n)) && (decide (iv.i.n < 4)))))] (vA (ql 2 4 (HS.hc z (i := 2) rfl) rfl rfl) (vA (fun (A : (decide ((0 : Int) ≤ iv.i.n)) = true) => (ql 2 4 (HS.hc z (i := 2) rfl) rfl rfl)) trivial)) rfl fun _ => ?_
         refine ah ⟨.inr rfl, _, rfl, ((decide ((0 : Int) ≤ iv.i.n)) && (decide (iv.i.n < 4))), _, (fT (E) T), (HS.forget z), rfl, (by rw [hgood] <;> (first | exact (dr hal hgood.2 (by omega) (by omega) (by omega) (by omega)).symm | (unfold gq; (repeat' split) <;> first | omega | rfl | (rw [Bool.eq_iff_iff] <;> simp))))⟩
        ·
         try simp only [BS] at a8
         refine wR 1 [] 133 134 [] [(133, (.bool (iv.i.op == 38)))] trivial rfl fun _ => ?_
         refine aj 1 3 (v := (iv.i.op == 38)) rfl rfl rfl rfl (fun a9 => ?_) (fun a9 => ?_)
         ·
          try simp only [BS] at a9
          refine wR 1 [(1, .o (iI iv.i.n)), (5, .o (iI iv.i.n)), (7, .o (iI c.params))] 135 144 [4] [(4, (.bool ((decide ((0 : Int) ≤ iv.i.n)) && (decide (iv.i.n < c.params)))))] (vA (ql 2 4 (HS.hc z (i := 2) rfl) rfl rfl) (vA (fun (A : (decide ((0 : Int) ≤ iv.i.n)) = true) => (ql 2 4 (HS.hc z (i := 2) rfl) rfl rfl)) (vA (fun (A : (decide ((0 : Int) ≤ iv.i.n)) = true) => (ql 3 0 (HS.hc z (i := 1) rfl) rfl rfl)) trivial))) rfl fun _ => ?_
          refine ah ⟨.inr rfl, _, rfl, ((decide ((0 : Int) ≤ iv.i.n)) && (decide (iv.i.n < c.params))), _, (fT (E) T), (HS.forget z), rfl, (by rw [hgood] <;> (first | exact (dr hal hgood.2 (by omega) (by omega) (by omega) (by omega)).symm | (unfold gq; (repeat' split) <;> first | omega | rfl | (rw [Bool.eq_iff_iff] <;> simp))))⟩
         ·
          try simp only [BS] at a9
          refine wR 1 [(1, .o (iI iv.i.n))] 145 147 [4] [(4, (.bool (iv.i.n == 0)))] (vA (ql 2 4 (HS.hc z (i := 2) rfl) rfl rfl) trivial) rfl fun _ => ?_
          refine ah ⟨.inr rfl, _, rfl, (iv.i.n == 0), _, (fT (E) T), (HS.forget z), rfl, (by rw [hgood] <;> (first | exact (dr hal hgood.2 (by omega) (by omega) (by omega) (by omega)).symm | (unfold gq; (repeat' split) <;> first | omega | rfl | (rw [Bool.eq_iff_iff] <;> simp))))⟩
theorem rEnd_c (ex : FuncId) {J : Option Addr} {O : Nat} (b : BlkT) {E : Option Addr} {I : Nat} (c : VFnT) {F : Fz} {H : Heap} {R : List Fp} (hs : HS (.of H []) F H [] R) (aq : SR F (.slice J b.ins.length O) b.ins) (ar : in64 b.fin) (av : in64 b.reg) (a0 : in64 b.tgt) (a1 : in64 b.els) (a2 : in64 c.params) (a3 : in64 c.regs) (a4 : SR F (.slice E c.blocks.length I) c.blocks) (hT : TB 37 tabC F) : C Tryd.prog 1 (KT 60 ex 37 tabC) 70 [(.agg ⟨[(.slice J b.ins.length O), (iI b.fin), (iI b.reg), (iI b.tgt), (iI b.els)]⟩), (.agg ⟨[(iI c.params), (iI c.regs), (.slice E c.blocks.length I)]⟩)] H fun v H' => ∃ (r : Bool) (F' : Fz), Fz.le F F' ∧ HS (.of H []) F' H' [] R ∧ v = .bool r ∧ r = fF (c.blocks.length : Int) c.regs b := by
 refine aJ Tryd.func70 rfl rfl ?_
 refine ao 1 rfl ?_
 refine ab ?_
 refine aP (b8 hs rfl rfl) rfl rfl ?_
 rintro _ H2 _ ⟨b1, rfl, Z, _⟩
 have Z : HS _ _ _ [[(b1, .cells [(.slice J b.ins.length O), (iI b.fin), (iI b.reg), (iI b.tgt), (iI b.els)] none false)]] _ := Z
 refine aP (b8 Z rfl rfl) rfl rfl ?_
 rintro _ H4 _ ⟨b3, rfl, z, _⟩
 have z : HS _ _ _ [_, [(b3, .cells [(iI c.params), (iI c.regs), (.slice E c.blocks.length I)] none false)]] _ := z
 refine wa (.bool false) rfl rfl rfl ?_
 refine ai 2 rfl ?_
 refine wR 2 [(1, .o (.slice E c.blocks.length I))] 9 11 [5] [(5, (iI (c.blocks.length : Int)))] (vA (ql 22 2 (HS.hc z (i := 1) rfl) rfl rfl) trivial) rfl fun _ => ?_
 refine wRD 3 [(1, .o (iI b.tgt)), (5, .o (iI b.tgt)), (10, .o (iI b.els)), (14, .o (iI b.els)), (19, .o (iI b.reg)), (23, .o (iI b.reg)), (25, .o (iI c.regs))] 12 39 [6, 7, 8] [(6, (.bool ((decide ((0 : Int) ≤ b.tgt)) && (decide (b.tgt < (c.blocks.length : Int)))))), (7, (.bool ((decide ((0 : Int) ≤ b.els)) && (decide (b.els < (c.blocks.length : Int)))))), (8, (.bool ((decide ((0 : Int) ≤ b.reg)) && (decide (b.reg < c.regs)))))] (vA (ql 3 3 (hc0 (HS.hc z (i := 0) rfl)) rfl rfl) (vA (fun (A : (decide ((0 : Int) ≤ b.tgt)) = true) => (ql 3 3 (hc0 (HS.hc z (i := 0) rfl)) rfl rfl)) (vA (ql 3 4 (hc0 (HS.hc z (i := 0) rfl)) rfl rfl) (vA (fun (A : (decide ((0 : Int) ≤ b.els)) = true) => (ql 3 4 (hc0 (HS.hc z (i := 0) rfl)) rfl rfl)) (vA (ql 3 2 (hc0 (HS.hc z (i := 0) rfl)) rfl rfl) (vA (fun (A : (decide ((0 : Int) ≤ b.reg)) = true) => (ql 3 2 (hc0 (HS.hc z (i := 0) rfl)) rfl rfl)) (vA (fun (A : (decide ((0 : Int) ≤ b.reg)) = true) => (ql 3 1 (hc0 (HS.hc z (i := 1) rfl)) rfl rfl)) trivial))))))) rfl rfl fun _ => ?_
 refine wR 3 [(1, .o (iI b.fin))] 40 41 [] [(41, (iI b.fin))] (vA (ql 3 1 (HS.hc z (i := 0) rfl) rfl rfl) trivial) rfl fun _ => ?_
 refine wR 1 [] 42 43 [] [(42, (.bool (b.fin == 1)))] trivial rfl fun _ => ?_
 refine aj 1 1 (v := (b.fin == 1)) rfl rfl rfl rfl (fun c9 => ?_) (fun c9 => ?_)
 ·
  try simp only [BS] at c9
  refine wR 1 [(3, .o (iI b.els)), (8, .o (iI b.reg))] 44 54 [4] [(4, (.bool ((((decide ((0 : Int) ≤ b.tgt)) && (decide (b.tgt < (c.blocks.length : Int)))) && (b.els == 0)) && (b.reg == 0))))] (vA (fun (A : ((decide ((0 : Int) ≤ b.tgt)) && (decide (b.tgt < (c.blocks.length : Int)))) = true) => (ql 3 4 (HS.hc z (i := 0) rfl) rfl rfl)) (vA (fun (A : (((decide ((0 : Int) ≤ b.tgt)) && (decide (b.tgt < (c.blocks.length : Int)))) && (b.els == 0)) = true) => (ql 3 2 (HS.hc z (i := 0) rfl) rfl rfl)) trivial)) rfl fun _ => ?_
  refine ah ⟨.inr rfl, _, rfl, ((((decide ((0 : Int) ≤ b.tgt)) && (decide (b.tgt < (c.blocks.length : Int)))) && (b.els == 0)) && (b.reg == 0)), _, fR, (HS.forget z), rfl, (by refine Bool.eq_iff_iff.2 (Iff.trans ?_ bN.symm); first | omega | (simp <;> omega))⟩
 ·
  try simp only [BS] at c9
  refine wR 1 [] 55 56 [] [(55, (.bool (b.fin == 2)))] trivial rfl fun _ => ?_
  refine aj 1 1 (v := (b.fin == 2)) rfl rfl rfl rfl (fun T => ?_) (fun T => ?_)
  ·
   try simp only [BS] at T
   refine wR 1 [] 57 63 [4] [(4, (.bool ((((decide ((0 : Int) ≤ b.tgt)) && (decide (b.tgt < (c.blocks.length : Int)))) && ((decide ((0 : Int) ≤ b.els)) && (decide (b.els < (c.blocks.length : Int))))) && ((decide ((0 : Int) ≤ b.reg)) && (decide (b.reg < c.regs))))))] trivial rfl fun _ => ?_
   refine ah ⟨.inr rfl, _, rfl, ((((decide ((0 : Int) ≤ b.tgt)) && (decide (b.tgt < (c.blocks.length : Int)))) && ((decide ((0 : Int) ≤ b.els)) && (decide (b.els < (c.blocks.length : Int))))) && ((decide ((0 : Int) ≤ b.reg)) && (decide (b.reg < c.regs)))), _, fR, (HS.forget z), rfl, (by refine Bool.eq_iff_iff.2 (Iff.trans ?_ bN.symm); first | omega | (simp <;> omega))⟩
  ·
   try simp only [BS] at T
   refine wR 1 [] 64 65 [] [(64, (.bool (b.fin == 3)))] trivial rfl fun _ => ?_
   refine aj 1 1 (v := (b.fin == 3)) rfl rfl rfl rfl (fun U => ?_) (fun U => ?_)
   ·
    try simp only [BS] at U
    refine wR 1 [(3, .o (iI b.tgt)), (8, .o (iI b.els))] 66 76 [4] [(4, (.bool ((((decide ((0 : Int) ≤ b.reg)) && (decide (b.reg < c.regs))) && (b.tgt == 0)) && (b.els == 0))))] (vA (fun (A : ((decide ((0 : Int) ≤ b.reg)) && (decide (b.reg < c.regs))) = true) => (ql 3 3 (HS.hc z (i := 0) rfl) rfl rfl)) (vA (fun (A : (((decide ((0 : Int) ≤ b.reg)) && (decide (b.reg < c.regs))) && (b.tgt == 0)) = true) => (ql 3 4 (HS.hc z (i := 0) rfl) rfl rfl)) trivial)) rfl fun _ => ?_
    refine ah ⟨.inr rfl, _, rfl, ((((decide ((0 : Int) ≤ b.reg)) && (decide (b.reg < c.regs))) && (b.tgt == 0)) && (b.els == 0)), _, fR, (HS.forget z), rfl, (by refine Bool.eq_iff_iff.2 (Iff.trans ?_ bN.symm); first | omega | (simp <;> omega))⟩
   ·
    try simp only [BS] at U
    refine wR 1 [] 77 78 [] [(77, (.bool (b.fin == 4)))] trivial rfl fun _ => ?_
    refine aj 1 3 (v := (b.fin == 4)) rfl rfl rfl rfl (fun V => ?_) (fun V => ?_)
    ·
     try simp only [BS] at V
     refine wR 1 [(1, .o (iI b.tgt)), (5, .o (iI b.tgt)), (10, .o (iI b.els)), (15, .o (iI b.reg))] 79 96 [4] [(4, (.bool ((((decide ((1 : Int) ≤ b.tgt)) && (decide (b.tgt < 33554432))) && (b.els == 0)) && (b.reg == 0))))] (vA (ql 3 3 (HS.hc z (i := 0) rfl) rfl rfl) (vA (fun (A : (decide ((1 : Int) ≤ b.tgt)) = true) => (ql 3 3 (HS.hc z (i := 0) rfl) rfl rfl)) (vA (fun (A : ((decide ((1 : Int) ≤ b.tgt)) && (decide (b.tgt < 33554432))) = true) => (ql 3 4 (HS.hc z (i := 0) rfl) rfl rfl)) (vA (fun (A : (((decide ((1 : Int) ≤ b.tgt)) && (decide (b.tgt < 33554432))) && (b.els == 0)) = true) => (ql 3 2 (HS.hc z (i := 0) rfl) rfl rfl)) trivial)))) rfl fun _ => ?_
     refine ah ⟨.inr rfl, _, rfl, ((((decide ((1 : Int) ≤ b.tgt)) && (decide (b.tgt < 33554432))) && (b.els == 0)) && (b.reg == 0)), _, fR, (HS.forget z), rfl, (by refine Bool.eq_iff_iff.2 (Iff.trans ?_ bN.symm); first | omega | (simp <;> omega))⟩
    ·
     try simp only [BS] at V
     refine wR 1 [] 4 4 [] [(4, (.bool false))] trivial rfl fun _ => ?_
     refine ah ⟨.inr rfl, _, rfl, false, _, fR, (HS.forget z), rfl, (by refine Bool.eq_iff_iff.2 (Iff.trans ?_ bN.symm); first | omega | (simp <;> omega))⟩
set_option maxHeartbeats 1000000 in
theorem valid_c (ex : FuncId) {E : Option Addr} {J : Nat} (c : VFnT) {F : Fz} {H : Heap} {R : List Fp} (hs : HS (.of H []) F H [] R) (eb : in64 c.params) (ec : in64 c.regs) (Z : SR F (.slice E c.blocks.length J) c.blocks) (hT : TB 37 tabC F) (hv : ∀ j, (c.blocks.getD j default).ins.length ≤ 9223372036854775807) : C Tryd.prog 1 (KT 60 ex 37 tabC) 39 [(.agg ⟨[(iI c.params), (iI c.regs), (.slice E c.blocks.length J)]⟩)] H fun v H' => ∃ (r : Bool) (F' : Fz), Fz.le F F' ∧ HS (.of H []) F' H' [] R ∧ v = .bool r ∧ r = eS c := by
 refine aJ Tryd.func39 rfl rfl ?_
 refine ao 1 rfl ?_
 refine ab ?_
 refine aP (b8 hs rfl rfl) rfl rfl ?_
 rintro _ H2 _ ⟨b1, rfl, U, _⟩
 let ci : Fp := [(b1, .cells [(iI c.params), (iI c.regs), (.slice E c.blocks.length J)] none false)]
 have U : HS _ _ _ [ci] _ := U
 refine wa (.bool false) rfl rfl rfl ?_
 refine ai 3 rfl ?_
 refine wR 1 [(1, .o (iI c.params)), (5, .o (iI c.params)), (10, .o (iI c.regs)), (15, .o (iI c.regs)), (20, .o (.slice E c.blocks.length J)), (26, .o (.slice E c.blocks.length J))] 10 39 [] [(39, (.bool ((((((decide (c.params < 0)) || (decide ((6 : Int) < c.params))) || (decide (c.regs < 0))) || (decide ((3000 : Int) < c.regs))) || (decide ((c.blocks.length : Int) < 1))) || (decide ((1000 : Int) < (c.blocks.length : Int))))))] (vA (ql 3 0 (HS.hc U (i := 0) rfl) rfl rfl) (vA (fun (T : (decide (c.params < 0)) = false) => (ql 3 0 (HS.hc U (i := 0) rfl) rfl rfl)) (vA (fun (T : ((decide (c.params < 0)) || (decide ((6 : Int) < c.params))) = false) => (ql 3 1 (HS.hc U (i := 0) rfl) rfl rfl)) (vA (fun (T : (((decide (c.params < 0)) || (decide ((6 : Int) < c.params))) || (decide (c.regs < 0))) = false) => (ql 3 1 (HS.hc U (i := 0) rfl) rfl rfl)) (vA (fun (T : ((((decide (c.params < 0)) || (decide ((6 : Int) < c.params))) || (decide (c.regs < 0))) || (decide ((3000 : Int) < c.regs))) = false) => (ql 22 2 (HS.hc U (i := 0) rfl) rfl rfl)) (vA (fun (T : (((((decide (c.params < 0)) || (decide ((6 : Int) < c.params))) || (decide (c.regs < 0))) || (decide ((3000 : Int) < c.regs))) || (decide ((c.blocks.length : Int) < 1))) = false) => (ql 22 2 (HS.hc U (i := 0) rfl) rfl rfl)) trivial)))))) rfl fun _ => ?_
 refine aj 1 2 (v := ((((((decide (c.params < 0)) || (decide ((6 : Int) < c.params))) || (decide (c.regs < 0))) || (decide ((3000 : Int) < c.regs))) || (decide ((c.blocks.length : Int) < 1))) || (decide ((1000 : Int) < (c.blocks.length : Int))))) rfl rfl rfl rfl (fun c4 => ?_) (fun c4 => ?_)
 ·
  try simp only [BS] at c4
  refine wR 1 [] 2 2 [] [(2, (.bool false))] trivial rfl fun _ => ?_
  refine ah ⟨.inr rfl, _, rfl, false, _, fR, (HS.forget U), rfl, (by exact val_lim (by omega))⟩
 ·
  try simp only [BS] at c4
  have hlim : 0 ≤ c.params ∧ c.params ≤ 6 ∧ 0 ≤ c.regs ∧ c.regs ≤ 3000 ∧ 1 ≤ c.blocks.length ∧ c.blocks.length ≤ 1000 := by omega
  refine wR 2 [] 40 40 [3] [(3, (.func (.func 67) #[] #[(.pointer (some ⟨b1, 0, none⟩))]))] trivial rfl fun _ => ?_
  refine wR 3 [] 41 41 [4] [(4, (.func (.func 68) #[] #[(.pointer (some ⟨b1, 0, none⟩))]))] trivial rfl fun _ => ?_
  refine wR 2 [(1, .o (.slice E c.blocks.length J))] 42 45 [] [(43, (.slice E c.blocks.length J)), (44, (iI (c.blocks.length : Int))), (45, (iI 0))] (vA (ql 22 2 (HS.hc U (i := 0) rfl) rfl rfl) trivial) rfl fun _ => ?_
  refine aE (fun (mm : Nat) f H' => ∃ (k : Nat) (F' : Fz), Fz.le F F' ∧ HS (Base.of H []) F' H' [ci] R ∧ aS f [(1, (.pointer (some ⟨b1, 0, none⟩))), (3, (.func (.func 67) #[] #[(.pointer (some ⟨b1, 0, none⟩))])), (4, (.func (.func 68) #[] #[(.pointer (some ⟨b1, 0, none⟩))])), (43, (.slice E c.blocks.length J)), (44, (iI (c.blocks.length : Int))), (45, (iI (k : Int)))] ∧ mm = c.blocks.length - k ∧ (k ≤ c.blocks.length) ∧ (∀ j, j < k → kQ c.params c.regs (c.blocks.length : Int) (c.blocks.getD j default) = true)) _ ⟨0, _, fR, U, ⟨rfl, rfl, rfl, rfl, rfl, rfl, trivial⟩, rfl, (by omega), (by exact bQ)⟩ ?_
  rintro e5 f9 H9 ⟨k, F9, O, a8, c3, rfl, hk, ha⟩ a9
  refine aF _ c3 (fun _ => ?_)
  clear c3
  replace hT := hT.mono O
  replace Z := Z.mono O
  have hvk := hv k
  refine ao 1 rfl ?_
  refine wR 2 [] 46 46 [] [(46, (.bool (decide ((k : Int) < (c.blocks.length : Int)))))] trivial rfl fun _ => ?_
  refine aj 4 5 (v := (decide ((k : Int) < (c.blocks.length : Int)))) rfl rfl rfl rfl (fun b0 => ?_) (fun b0 => ?_)
  ·
   try simp only [BS] at b0
   refine ab ?_
   obtain ⟨I, cd⟩ := Sv.view (SR.sv Z a8)
   obtain ⟨c9, dd, dk, dl, ap⟩ := BlkT.fx (cd k)
   let co : Value := (.agg ⟨[(.slice (cA (I k) 0) (c.blocks.getD k default).ins.length (cK (I k) 0)), (iI (c.blocks.getD k default).fin), (iI (c.blocks.getD k default).reg), (iI (c.blocks.getD k default).tgt), (iI (c.blocks.getD k default).els)]⟩)
   refine wRo 2 0 [(1, .o co)] 47 48 [] [(48, co)] (vA (Sv.ix (j := (k : Int)) (SR.sv Z a8) (by omega) (by omega)) (vA (qn 42 0 5 (BlkT.vw (cd k) (by omega)) rfl rfl rfl rfl) trivial)) rfl fun _ => ?_
   refine aP (bp a8 rfl) rfl rfl ?_
   rintro _ ez _ ⟨bl, rfl, a5, _⟩
   have a5 : HS _ _ _ [_, [(bl, .cells [(.slice none 0 0), (iI 0), (iI 0), (iI 0), (iI 0)] none false)]] _ := a5
   refine aD (ax (q := 1) a5 rfl rfl rfl rfl rfl rfl rfl rfl rfl) rfl ?_
   rintro _ e0 _ ⟨av, _⟩
   let c5 : Fp := [(bl, .cells [(.slice (cA (I k) 0) (c.blocks.getD k default).ins.length (cK (I k) 0)), (iI (c.blocks.getD k default).fin), (iI (c.blocks.getD k default).reg), (iI (c.blocks.getD k default).tgt), (iI (c.blocks.getD k default).els)] none false)]
   have av : HS _ _ _ [_, c5] _ := av
   refine ai 3 rfl ?_
   refine wR 2 [(1, .o (.slice (cA (I k) 0) (c.blocks.getD k default).ins.length (cK (I k) 0)))] 49 52 [] [(50, (.slice (cA (I k) 0) (c.blocks.getD k default).ins.length (cK (I k) 0))), (51, (iI ((c.blocks.getD k default).ins.length : Int))), (52, (iI 0))] (vA (ql 40 0 (HS.hc av (i := 1) rfl) rfl rfl) trivial) rfl fun _ => ?_
   refine aE (fun (mm : Nat) f H' => ∃ (i : Nat) (F' : Fz), Fz.le F9 F' ∧ HS (Base.of H []) F' H' [ci, c5] R ∧ aS f [(1, (.pointer (some ⟨b1, 0, none⟩))), (3, (.func (.func 67) #[] #[(.pointer (some ⟨b1, 0, none⟩))])), (4, (.func (.func 68) #[] #[(.pointer (some ⟨b1, 0, none⟩))])), (6, (.pointer (some ⟨bl, 0, none⟩))), (43, (.slice E c.blocks.length J)), (44, (iI (c.blocks.length : Int))), (45, (iI (k : Int))), (46, (.bool (decide ((k : Int) < (c.blocks.length : Int))))), (48, co), (50, (.slice (cA (I k) 0) (c.blocks.getD k default).ins.length (cK (I k) 0))), (51, (iI ((c.blocks.getD k default).ins.length : Int))), (52, (iI (i : Int)))] ∧ mm = (c.blocks.getD k default).ins.length - i ∧ (i ≤ (c.blocks.getD k default).ins.length) ∧ (∀ j, j < i → ey c.params c.regs ((c.blocks.getD k default).ins.getD j default) = true)) _ ⟨0, _, fR, av, ⟨rfl, rfl, rfl, rfl, rfl, rfl, rfl, rfl, rfl, rfl, rfl, rfl, trivial⟩, rfl, (by omega), (by exact bQ)⟩ ?_
   rintro em e4 a0 ⟨i, es, A, z, b9, rfl, hi, hb⟩ c8
   refine aF _ b9 (fun _ => ?_)
   clear b9
   replace hT := hT.mono A
   replace Z := Z.mono A
   replace ap := ap.mono A
   refine ao 1 rfl ?_
   refine wR 2 [] 53 53 [] [(53, (.bool (decide ((i : Int) < ((c.blocks.getD k default).ins.length : Int)))))] trivial rfl fun _ => ?_
   refine aj 4 5 (v := (decide ((i : Int) < ((c.blocks.getD k default).ins.length : Int)))) rfl rfl rfl rfl (fun b2 => ?_) (fun b2 => ?_)
   ·
    try simp only [BS] at b2
    refine ab ?_
    obtain ⟨ar, ch⟩ := Sv.view (SR.sv ap z)
    obtain ⟨dn, ds, dt, dv, d1, cv⟩ := VInT.fx (ch i)
    let bb : Value := (.agg ⟨[(iI ((c.blocks.getD k default).ins.getD i default).i.op), (iI ((c.blocks.getD k default).ins.getD i default).i.a), (iI ((c.blocks.getD k default).ins.getD i default).i.b), (iI ((c.blocks.getD k default).ins.getD i default).i.c), (iI ((c.blocks.getD k default).ins.getD i default).i.n), (.slice (cA (ar i) 5) ((c.blocks.getD k default).ins.getD i default).args.length (cK (ar i) 5))]⟩)
    refine wRo 2 0 [(1, .o bb)] 54 55 [] [(55, bb)] (vA (Sv.ix (j := (i : Int)) (SR.sv ap z) (by omega) (by omega)) (vA (qn 47 0 6 (VInT.vw (ch i) (by omega)) rfl rfl rfl rfl) trivial)) rfl fun _ => ?_
    refine aP (bp z rfl) rfl rfl ?_
    rintro _ e1 _ ⟨c0, rfl, a6, _⟩
    have a6 : HS _ _ _ [_, _, [(c0, .cells [(iI 0), (iI 0), (iI 0), (iI 0), (iI 0), (.slice none 0 0)] none false)]] _ := a6
    refine aD (ax (q := 2) a6 rfl rfl rfl rfl rfl rfl rfl rfl rfl) rfl ?_
    rintro _ e2 _ ⟨ad, _⟩
    have ad : HS _ _ _ [_, _, [(c0, .cells [(iI ((c.blocks.getD k default).ins.getD i default).i.op), (iI ((c.blocks.getD k default).ins.getD i default).i.a), (iI ((c.blocks.getD k default).ins.getD i default).i.b), (iI ((c.blocks.getD k default).ins.getD i default).i.c), (iI ((c.blocks.getD k default).ins.getD i default).i.n), (.slice (cA (ar i) 5) ((c.blocks.getD k default).ins.getD i default).args.length (cK (ar i) 5))] none false)]] _ := ad
    refine ai 2 rfl ?_
    refine ab ?_
    let c6 : Value := (.agg ⟨[(iI c.params), (iI c.regs), (.slice E c.blocks.length J)]⟩)
    refine wRo 2 0 [(0, .o c6), (1, .o bb)] 56 57 [] [(56, c6), (57, bb)] (vA (qn 24 0 3 (HS.hc ad (i := 0) rfl) rfl rfl rfl rfl) (vA (qn 47 0 6 (HS.hc ad (i := 2) rfl) rfl rfl rfl rfl) trivial)) rfl fun _ => ?_
    refine aC (aw rfl rfl rfl) rfl rfl (vinstr_c ex c (⟨(⟨((c.blocks.getD k default).ins.getD i default).i.op, ((c.blocks.getD k default).ins.getD i default).i.a, ((c.blocks.getD k default).ins.getD i default).i.b, ((c.blocks.getD k default).ins.getD i default).i.c, ((c.blocks.getD k default).ins.getD i default).i.n⟩ : InsT), ((c.blocks.getD k default).ins.getD i default).args⟩ : VInT) (HS.call ad) (by omega) (by omega) Z (by omega) (by omega) (by omega) (by omega) (by omega) cv hT) ?_
    rintro _ e3 ⟨e6, et, b7, ag, rfl, rfl⟩
    replace ag := HS.back ad rfl ag
    have ag : HS _ _ _ [_, _, _] _ := ag
    refine wRo 1 3 [] 59 59 [] [(59, (.bool (!(ey c.params c.regs (⟨(⟨((c.blocks.getD k default).ins.getD i default).i.op, ((c.blocks.getD k default).ins.getD i default).i.a, ((c.blocks.getD k default).ins.getD i default).i.b, ((c.blocks.getD k default).ins.getD i default).i.c, ((c.blocks.getD k default).ins.getD i default).i.n⟩ : InsT), ((c.blocks.getD k default).ins.getD i default).args⟩ : VInT)))))] trivial rfl fun _ => ?_
    refine ai 1 rfl ?_
    refine aj 1 2 (v := (!(ey c.params c.regs (⟨(⟨((c.blocks.getD k default).ins.getD i default).i.op, ((c.blocks.getD k default).ins.getD i default).i.a, ((c.blocks.getD k default).ins.getD i default).i.b, ((c.blocks.getD k default).ins.getD i default).i.c, ((c.blocks.getD k default).ins.getD i default).i.n⟩ : InsT), ((c.blocks.getD k default).ins.getD i default).args⟩ : VInT)))) rfl rfl rfl rfl (fun a7 => ?_) (fun a7 => ?_)
    ·
     try simp only [BS] at a7
     have h3 := a7
     refine wR 1 [] 2 2 [] [(2, (.bool false))] trivial rfl fun _ => ?_
     refine ah ⟨.inr rfl, _, rfl, false, _, (fT (fT (O) A) b7), (HS.forget ag), rfl, (by exact gT (cr (by omega) (blk_no (cr (by omega) h3))))⟩
    ·
     try simp only [BS] at a7
     refine wR 1 [] 52 52 [60] [(52, (iI ((i : Int) + 1)))] (vA (vi (n := (i : Int) + 1) (by omega)) trivial) rfl fun _ => ?_
     refine c8 _ _ _ ?_ ⟨i + 1, _, (fT (A) b7), (HS.sub ag (List.sublist_append_left _ _)), ⟨rfl, rfl, rfl, rfl, rfl, rfl, rfl, rfl, rfl, rfl, rfl, rfl, trivial⟩, rfl, (by omega), (by exact bj hb (by assumption))⟩
     omega
   ·
    try simp only [BS] at b2
    have hal := cu hb (by omega)
    refine wR 3 [] 1 0 [9] [(9, (.bool false))] trivial rfl fun _ => ?_
    refine wR 3 [(1, .o (iI (c.blocks.getD k default).fin))] 61 62 [] [(62, (iI (c.blocks.getD k default).fin))] (vA (ql 3 1 (HS.hc z (i := 1) rfl) rfl rfl) trivial) rfl fun _ => ?_
    refine wR 1 [] 63 64 [] [(63, (.bool ((c.blocks.getD k default).fin == 1)))] trivial rfl fun _ => ?_
    refine aj 0 1 (v := ((c.blocks.getD k default).fin == 1)) rfl rfl rfl rfl (fun b3 => ?_) (fun b3 => ?_)
    ·
     try simp only [BS] at b3
     refine wR 3 [(2, .o (iI (c.blocks.getD k default).tgt)), (3, .o (.bool (aH (c.blocks.length : Int) (c.blocks.getD k default).tgt))), (6, .o (iI (c.blocks.getD k default).reg)), (11, .o (iI (c.blocks.getD k default).els))] 65 78 [9] [(9, (.bool ((aH (c.blocks.length : Int) (c.blocks.getD k default).tgt && ((c.blocks.getD k default).reg == 0)) && ((c.blocks.getD k default).els == 0))))] (vA (ql 3 3 (HS.hc z (i := 1) rfl) rfl rfl) (vA (kP ex (c.blocks.getD k default).tgt c a0 (by omega) (HS.hc z (i := 0) rfl) (by omega) (by omega)) (vA (fun (T : (aH (c.blocks.length : Int) (c.blocks.getD k default).tgt) = true) => (ql 3 2 (HS.hc z (i := 1) rfl) rfl rfl)) (vA (fun (T : (aH (c.blocks.length : Int) (c.blocks.getD k default).tgt && ((c.blocks.getD k default).reg == 0)) = true) => (ql 3 4 (HS.hc z (i := 1) rfl) rfl rfl)) trivial)))) rfl fun _ => ?_
     refine wR 1 [] 133 134 [] [(134, (.bool (!((aH (c.blocks.length : Int) (c.blocks.getD k default).tgt && ((c.blocks.getD k default).reg == 0)) && ((c.blocks.getD k default).els == 0)))))] trivial rfl fun _ => ?_
     refine aj 1 2 (v := (!((aH (c.blocks.length : Int) (c.blocks.getD k default).tgt && ((c.blocks.getD k default).reg == 0)) && ((c.blocks.getD k default).els == 0)))) rfl rfl rfl rfl (fun a1 => ?_) (fun a1 => ?_)
     ·
      try simp only [BS] at a1
      have V := a1
      try simp only [br] at V
      refine wR 1 [] 2 2 [] [(2, (.bool false))] trivial rfl fun _ => ?_
      refine ah ⟨.inr rfl, _, rfl, false, _, (fT (O) A), (HS.forget z), rfl, (by exact gT (cr (k := k) (by omega) (gR (Bool.eq_false_iff.2 fun hv => by rw [bN] at hv; omega))))⟩
     ·
      try simp only [BS] at a1
      have V := a1
      try simp only [br] at V
      refine wR 1 [] 45 45 [135] [(45, (iI ((k : Int) + 1)))] (vA (vi (n := (k : Int) + 1) (by omega)) trivial) rfl fun _ => ?_
      refine a9 _ _ _ ?_ ⟨k + 1, _, (fT (O) A), (HS.sub z (List.sublist_append_left _ _)), ⟨rfl, rfl, rfl, rfl, rfl, rfl, trivial⟩, rfl, (by omega), (by exact bj ha (gQ hal (by (rw [bN]; omega))))⟩
      omega
    ·
     try simp only [BS] at b3
     refine wR 1 [] 79 80 [] [(79, (.bool ((c.blocks.getD k default).fin == 2)))] trivial rfl fun _ => ?_
     refine aj 0 1 (v := ((c.blocks.getD k default).fin == 2)) rfl rfl rfl rfl (fun b4 => ?_) (fun b4 => ?_)
     ·
      try simp only [BS] at b4
      refine wR 3 [(2, .o (iI (c.blocks.getD k default).tgt)), (3, .o (.bool (aH (c.blocks.length : Int) (c.blocks.getD k default).tgt))), (7, .o (iI (c.blocks.getD k default).els)), (8, .o (.bool (aH (c.blocks.length : Int) (c.blocks.getD k default).els))), (13, .o (iI (c.blocks.getD k default).reg)), (14, .o (.bool (aH c.regs (c.blocks.getD k default).reg)))] 81 96 [9] [(9, (.bool ((aH (c.blocks.length : Int) (c.blocks.getD k default).tgt && aH (c.blocks.length : Int) (c.blocks.getD k default).els) && aH c.regs (c.blocks.getD k default).reg)))] (vA (ql 3 3 (HS.hc z (i := 1) rfl) rfl rfl) (vA (kP ex (c.blocks.getD k default).tgt c a0 (by omega) (HS.hc z (i := 0) rfl) (by omega) (by omega)) (vA (fun (T : (aH (c.blocks.length : Int) (c.blocks.getD k default).tgt) = true) => (ql 3 4 (HS.hc z (i := 1) rfl) rfl rfl)) (vA (fun (T : (aH (c.blocks.length : Int) (c.blocks.getD k default).tgt) = true) => (kP ex (c.blocks.getD k default).els c a0 (by omega) (HS.hc z (i := 0) rfl) (by omega) (by omega))) (vA (fun (T : (aH (c.blocks.length : Int) (c.blocks.getD k default).tgt && aH (c.blocks.length : Int) (c.blocks.getD k default).els) = true) => (ql 3 2 (HS.hc z (i := 1) rfl) rfl rfl)) (vA (fun (T : (aH (c.blocks.length : Int) (c.blocks.getD k default).tgt && aH (c.blocks.length : Int) (c.blocks.getD k default).els) = true) => (cReg_c_q ex (c.blocks.getD k default).reg c a0 (by (try simp only [BS] at T); omega) (HS.hc z (i := 0) rfl) (by (try simp only [BS] at T); omega) (by (try simp only [BS] at T); omega))) trivial)))))) rfl fun _ => ?_
      refine wR 1 [] 133 134 [] [(134, (.bool (!((aH (c.blocks.length : Int) (c.blocks.getD k default).tgt && aH (c.blocks.length : Int) (c.blocks.getD k default).els) && aH c.regs (c.blocks.getD k default).reg))))] trivial rfl fun _ => ?_
      refine aj 1 2 (v := (!((aH (c.blocks.length : Int) (c.blocks.getD k default).tgt && aH (c.blocks.length : Int) (c.blocks.getD k default).els) && aH c.regs (c.blocks.getD k default).reg))) rfl rfl rfl rfl (fun a2 => ?_) (fun a2 => ?_)
      ·
       try simp only [BS] at a2
       have V := a2
       try simp only [gm, br] at V
       refine wR 1 [] 2 2 [] [(2, (.bool false))] trivial rfl fun _ => ?_
       refine ah ⟨.inr rfl, _, rfl, false, _, (fT (O) A), (HS.forget z), rfl, (by exact gT (cr (k := k) (by omega) (gR (Bool.eq_false_iff.2 fun hv => by rw [bN] at hv; omega))))⟩
      ·
       try simp only [BS] at a2
       have V := a2
       try simp only [br] at V
       refine wR 1 [] 45 45 [135] [(45, (iI ((k : Int) + 1)))] (vA (vi (n := (k : Int) + 1) (by omega)) trivial) rfl fun _ => ?_
       refine a9 _ _ _ ?_ ⟨k + 1, _, (fT (O) A), (HS.sub z (List.sublist_append_left _ _)), ⟨rfl, rfl, rfl, rfl, rfl, rfl, trivial⟩, rfl, (by omega), (by exact bj ha (gQ hal (by (rw [bN]; omega))))⟩
       omega
     ·
      try simp only [BS] at b4
      refine wR 1 [] 97 98 [] [(97, (.bool ((c.blocks.getD k default).fin == 3)))] trivial rfl fun _ => ?_
      refine aj 0 1 (v := ((c.blocks.getD k default).fin == 3)) rfl rfl rfl rfl (fun b5 => ?_) (fun b5 => ?_)
      ·
       try simp only [BS] at b5
       refine wR 3 [(2, .o (iI (c.blocks.getD k default).reg)), (3, .o (.bool (aH c.regs (c.blocks.getD k default).reg))), (6, .o (iI (c.blocks.getD k default).tgt)), (11, .o (iI (c.blocks.getD k default).els))] 99 112 [9] [(9, (.bool ((aH c.regs (c.blocks.getD k default).reg && ((c.blocks.getD k default).tgt == 0)) && ((c.blocks.getD k default).els == 0))))] (vA (ql 3 2 (HS.hc z (i := 1) rfl) rfl rfl) (vA (cReg_c_q ex (c.blocks.getD k default).reg c a0 (by omega) (HS.hc z (i := 0) rfl) (by omega) (by omega)) (vA (fun (T : (aH c.regs (c.blocks.getD k default).reg) = true) => (ql 3 3 (HS.hc z (i := 1) rfl) rfl rfl)) (vA (fun (T : (aH c.regs (c.blocks.getD k default).reg && ((c.blocks.getD k default).tgt == 0)) = true) => (ql 3 4 (HS.hc z (i := 1) rfl) rfl rfl)) trivial)))) rfl fun _ => ?_
       refine wR 1 [] 133 134 [] [(134, (.bool (!((aH c.regs (c.blocks.getD k default).reg && ((c.blocks.getD k default).tgt == 0)) && ((c.blocks.getD k default).els == 0)))))] trivial rfl fun _ => ?_
       refine aj 1 2 (v := (!((aH c.regs (c.blocks.getD k default).reg && ((c.blocks.getD k default).tgt == 0)) && ((c.blocks.getD k default).els == 0)))) rfl rfl rfl rfl (fun a3 => ?_) (fun a3 => ?_)
       ·
        try simp only [BS] at a3
        have V := a3
        try simp only [br] at V
        refine wR 1 [] 2 2 [] [(2, (.bool false))] trivial rfl fun _ => ?_
        refine ah ⟨.inr rfl, _, rfl, false, _, (fT (O) A), (HS.forget z), rfl, (by exact gT (cr (k := k) (by omega) (gR (Bool.eq_false_iff.2 fun hv => by rw [bN] at hv; omega))))⟩
       ·
        try simp only [BS] at a3
        have V := a3
        try simp only [br] at V
        refine wR 1 [] 45 45 [135] [(45, (iI ((k : Int) + 1)))] (vA (vi (n := (k : Int) + 1) (by omega)) trivial) rfl fun _ => ?_
        refine a9 _ _ _ ?_ ⟨k + 1, _, (fT (O) A), (HS.sub z (List.sublist_append_left _ _)), ⟨rfl, rfl, rfl, rfl, rfl, rfl, trivial⟩, rfl, (by omega), (by exact bj ha (gQ hal (by (rw [bN]; omega))))⟩
        omega
      ·
       try simp only [BS] at b5
       refine wR 1 [] 113 114 [] [(113, (.bool ((c.blocks.getD k default).fin == 4)))] trivial rfl fun _ => ?_
       refine aj 0 3 (v := ((c.blocks.getD k default).fin == 4)) rfl rfl rfl rfl (fun b6 => ?_) (fun b6 => ?_)
       ·
        try simp only [BS] at b6
        refine wR 3 [(1, .o (iI (c.blocks.getD k default).tgt)), (5, .o (iI (c.blocks.getD k default).tgt)), (10, .o (iI (c.blocks.getD k default).reg)), (15, .o (iI (c.blocks.getD k default).els))] 115 132 [9] [(9, (.bool ((((decide ((1 : Int) ≤ (c.blocks.getD k default).tgt)) && (decide ((c.blocks.getD k default).tgt < 33554432))) && ((c.blocks.getD k default).reg == 0)) && ((c.blocks.getD k default).els == 0))))] (vA (ql 3 3 (HS.hc z (i := 1) rfl) rfl rfl) (vA (fun (T : (decide ((1 : Int) ≤ (c.blocks.getD k default).tgt)) = true) => (ql 3 3 (HS.hc z (i := 1) rfl) rfl rfl)) (vA (fun (T : ((decide ((1 : Int) ≤ (c.blocks.getD k default).tgt)) && (decide ((c.blocks.getD k default).tgt < 33554432))) = true) => (ql 3 2 (HS.hc z (i := 1) rfl) rfl rfl)) (vA (fun (T : (((decide ((1 : Int) ≤ (c.blocks.getD k default).tgt)) && (decide ((c.blocks.getD k default).tgt < 33554432))) && ((c.blocks.getD k default).reg == 0)) = true) => (ql 3 4 (HS.hc z (i := 1) rfl) rfl rfl)) trivial)))) rfl fun _ => ?_
        refine wR 1 [] 133 134 [] [(134, (.bool (!((((decide ((1 : Int) ≤ (c.blocks.getD k default).tgt)) && (decide ((c.blocks.getD k default).tgt < 33554432))) && ((c.blocks.getD k default).reg == 0)) && ((c.blocks.getD k default).els == 0)))))] trivial rfl fun _ => ?_
        refine aj 1 2 (v := (!((((decide ((1 : Int) ≤ (c.blocks.getD k default).tgt)) && (decide ((c.blocks.getD k default).tgt < 33554432))) && ((c.blocks.getD k default).reg == 0)) && ((c.blocks.getD k default).els == 0)))) rfl rfl rfl rfl (fun a4 => ?_) (fun a4 => ?_)
        ·
         try simp only [BS] at a4
         have V := a4
         try simp only [gm, br] at V
         refine wR 1 [] 2 2 [] [(2, (.bool false))] trivial rfl fun _ => ?_
         refine ah ⟨.inr rfl, _, rfl, false, _, (fT (O) A), (HS.forget z), rfl, (by exact gT (cr (k := k) (by omega) (gR (Bool.eq_false_iff.2 fun hv => by rw [bN] at hv; omega))))⟩
        ·
         try simp only [BS] at a4
         have V := a4
         try simp only [gm, br] at V
         refine wR 1 [] 45 45 [135] [(45, (iI ((k : Int) + 1)))] (vA (vi (n := (k : Int) + 1) (by omega)) trivial) rfl fun _ => ?_
         refine a9 _ _ _ ?_ ⟨k + 1, _, (fT (O) A), (HS.sub z (List.sublist_append_left _ _)), ⟨rfl, rfl, rfl, rfl, rfl, rfl, trivial⟩, rfl, (by omega), (by exact bj ha (gQ hal (by (rw [bN]; omega))))⟩
         omega
       ·
        try simp only [BS] at b6
        refine wR 1 [] 133 134 [] [(134, (.bool true))] trivial rfl fun _ => ?_
        refine aX 1 (v := true) rfl rfl rfl rfl ?_
        refine wR 1 [] 2 2 [] [(2, (.bool false))] trivial rfl fun _ => ?_
        refine ah ⟨.inr rfl, _, rfl, false, _, (fT (O) A), (HS.forget z), rfl, (by exact gT (cr (k := k) (by omega) (gR (Bool.eq_false_iff.2 fun hv => by rw [bN] at hv; omega))))⟩
  ·
   try simp only [BS] at b0
   refine wR 1 [] 2 2 [] [(2, (.bool true))] trivial rfl fun _ => ?_
   refine ah ⟨.inr rfl, _, rfl, true, _, (O), (HS.forget a8), rfl, (by exact val_yes hlim (cu ha (by omega)))⟩
set_option maxHeartbeats 1000000 in
theorem rvalid_c (ex : FuncId) {O : Option Addr} {T : Nat} (c : VFnT) {F : Fz} {H : Heap} {R : List Fp} (hs : HS (.of H []) F H [] R) (d2 : in64 c.params) (ea : in64 c.regs) (A : SR F (.slice O c.blocks.length T) c.blocks) (hT : TB 37 tabC F) (hv : ∀ j, (c.blocks.getD j default).ins.length ≤ 9223372036854775807) : C Tryd.prog 1 (KT 60 ex 37 tabC) 40 [(.agg ⟨[(iI c.params), (iI c.regs), (.slice O c.blocks.length T)]⟩)] H fun v H' => ∃ (r : Bool) (F' : Fz), Fz.le F F' ∧ HS (.of H []) F' H' [] R ∧ v = .bool r ∧ r = eS c := by
 refine aJ Tryd.func40 rfl rfl ?_
 refine ao 1 rfl ?_
 refine ab ?_
 refine aP (b8 hs rfl rfl) rfl rfl ?_
 rintro _ H2 _ ⟨b1, rfl, U, _⟩
 let a8 : Fp := [(b1, .cells [(iI c.params), (iI c.regs), (.slice O c.blocks.length T)] none false)]
 have U : HS _ _ _ [a8] _ := U
 refine wa (.bool false) rfl rfl rfl ?_
 refine ai 3 rfl ?_
 refine wR 1 [(1, .o (iI c.params)), (5, .o (iI c.params)), (10, .o (iI c.regs)), (15, .o (iI c.regs)), (20, .o (.slice O c.blocks.length T)), (26, .o (.slice O c.blocks.length T))] 6 35 [] [(35, (.bool ((((((decide (c.params < 0)) || (decide ((6 : Int) < c.params))) || (decide (c.regs < 0))) || (decide ((3000 : Int) < c.regs))) || (decide ((c.blocks.length : Int) < 1))) || (decide ((1000 : Int) < (c.blocks.length : Int))))))] (vA (ql 3 0 (HS.hc U (i := 0) rfl) rfl rfl) (vA (fun (g1 : (decide (c.params < 0)) = false) => (ql 3 0 (HS.hc U (i := 0) rfl) rfl rfl)) (vA (fun (g1 : ((decide (c.params < 0)) || (decide ((6 : Int) < c.params))) = false) => (ql 3 1 (HS.hc U (i := 0) rfl) rfl rfl)) (vA (fun (g1 : (((decide (c.params < 0)) || (decide ((6 : Int) < c.params))) || (decide (c.regs < 0))) = false) => (ql 3 1 (HS.hc U (i := 0) rfl) rfl rfl)) (vA (fun (g1 : ((((decide (c.params < 0)) || (decide ((6 : Int) < c.params))) || (decide (c.regs < 0))) || (decide ((3000 : Int) < c.regs))) = false) => (ql 22 2 (HS.hc U (i := 0) rfl) rfl rfl)) (vA (fun (g1 : (((((decide (c.params < 0)) || (decide ((6 : Int) < c.params))) || (decide (c.regs < 0))) || (decide ((3000 : Int) < c.regs))) || (decide ((c.blocks.length : Int) < 1))) = false) => (ql 22 2 (HS.hc U (i := 0) rfl) rfl rfl)) trivial)))))) rfl fun _ => ?_
 refine aj 1 3 (v := ((((((decide (c.params < 0)) || (decide ((6 : Int) < c.params))) || (decide (c.regs < 0))) || (decide ((3000 : Int) < c.regs))) || (decide ((c.blocks.length : Int) < 1))) || (decide ((1000 : Int) < (c.blocks.length : Int))))) rfl rfl rfl rfl (fun c4 => ?_) (fun c4 => ?_)
 ·
  try simp only [BS] at c4
  refine wR 1 [] 2 2 [] [(2, (.bool false))] trivial rfl fun _ => ?_
  refine ah ⟨.inr rfl, _, rfl, false, _, fR, (HS.forget U), rfl, (by exact val_lim (by omega))⟩
 ·
  try simp only [BS] at c4
  have hlim : 0 ≤ c.params ∧ c.params ≤ 6 ∧ 0 ≤ c.regs ∧ c.regs ≤ 3000 ∧ 1 ≤ c.blocks.length ∧ c.blocks.length ≤ 1000 := by omega
  refine wR 2 [] 1 0 [3] [(3, (iI 0))] trivial rfl fun _ => ?_
  refine aE (fun (mm : Nat) f H' => ∃ (k : Nat) (F' : Fz), Fz.le F F' ∧ HS (Base.of H []) F' H' [a8] R ∧ aS f [(1, (.pointer (some ⟨b1, 0, none⟩))), (3, (iI (k : Int)))] ∧ mm = c.blocks.length - k ∧ (k ≤ c.blocks.length) ∧ (∀ j, j < k → kQ c.params c.regs (c.blocks.length : Int) (c.blocks.getD j default) = true)) _ ⟨0, _, fR, U, ⟨rfl, rfl, trivial⟩, rfl, (by omega), (by exact bQ)⟩ ?_
  rintro e2 f7 H7 ⟨k, F7, ap, aq, b4, rfl, hk, ha⟩ c0
  refine aF _ b4 (fun _ => ?_)
  clear b4
  replace hT := hT.mono ap
  replace A := A.mono ap
  have hvk := hv k
  refine ao 2 rfl ?_
  refine wR 1 [(2, .o (.slice O c.blocks.length T))] 36 40 [] [(40, (.bool (decide ((k : Int) < (c.blocks.length : Int)))))] (vA (ql 22 2 (HS.hc aq (i := 0) rfl) rfl rfl) trivial) rfl fun _ => ?_
  refine aj 4 5 (v := (decide ((k : Int) < (c.blocks.length : Int)))) rfl rfl rfl rfl (fun c9 => ?_) (fun c9 => ?_)
  ·
   try simp only [BS] at c9
   refine ab ?_
   obtain ⟨z, a7⟩ := Sv.view (SR.sv A aq)
   obtain ⟨c3, c5, c6, c7, J⟩ := BlkT.fx (a7 k)
   let ar : Value := (.agg ⟨[(.slice (cA (z k) 0) (c.blocks.getD k default).ins.length (cK (z k) 0)), (iI (c.blocks.getD k default).fin), (iI (c.blocks.getD k default).reg), (iI (c.blocks.getD k default).tgt), (iI (c.blocks.getD k default).els)]⟩)
   refine wRo 5 0 [(1, .o (.slice O c.blocks.length T)), (4, .o ar)] 43 47 [] [(47, ar)] (vA (ql 22 2 (HS.hc aq (i := 0) rfl) rfl rfl) (vA (Sv.ix (j := (k : Int)) (SR.sv A aq) (by omega) (by omega)) (vA (qn 42 0 5 (BlkT.vw (a7 k) (by omega)) rfl rfl rfl rfl) trivial))) rfl fun _ => ?_
   refine aP (bp aq rfl) rfl rfl ?_
   rintro _ es _ ⟨av, rfl, a1, _⟩
   have a1 : HS _ _ _ [_, [(av, .cells [(.slice none 0 0), (iI 0), (iI 0), (iI 0), (iI 0)] none false)]] _ := a1
   refine aD (ax (q := 1) a1 rfl rfl rfl rfl rfl rfl rfl rfl rfl) rfl ?_
   rintro _ et _ ⟨ad, _⟩
   let b5 : Fp := [(av, .cells [(.slice (cA (z k) 0) (c.blocks.getD k default).ins.length (cK (z k) 0)), (iI (c.blocks.getD k default).fin), (iI (c.blocks.getD k default).reg), (iI (c.blocks.getD k default).tgt), (iI (c.blocks.getD k default).els)] none false)]
   have ad : HS _ _ _ [_, b5] _ := ad
   refine ai 3 rfl ?_
   refine ab ?_
   let a3 : Value := (.agg ⟨[(iI c.params), (iI c.regs), (.slice O c.blocks.length T)]⟩)
   refine wRo 2 0 [(0, .o ar), (1, .o a3)] 48 49 [] [(48, ar), (49, a3)] (vA (qn 42 0 5 (HS.hc ad (i := 1) rfl) rfl rfl rfl rfl) (vA (qn 24 0 3 (HS.hc ad (i := 0) rfl) rfl rfl rfl rfl) trivial)) rfl fun _ => ?_
   refine aC (aw rfl rfl rfl) rfl rfl (rEnd_c ex (⟨(c.blocks.getD k default).ins, (c.blocks.getD k default).fin, (c.blocks.getD k default).reg, (c.blocks.getD k default).tgt, (c.blocks.getD k default).els⟩ : BlkT) c (HS.call ad) J (by omega) (by omega) (by omega) (by omega) (by omega) (by omega) A hT) ?_
   rintro _ ez ⟨e3, co, V, ag, rfl, rfl⟩
   replace ag := HS.back ad rfl ag
   have ag : HS _ _ _ [_, _] _ := ag
   replace hT := hT.mono V
   replace A := A.mono V
   replace J := J.mono V
   refine wRo 1 3 [] 51 51 [] [(51, (.bool (!(fF (c.blocks.length : Int) c.regs (⟨(c.blocks.getD k default).ins, (c.blocks.getD k default).fin, (c.blocks.getD k default).reg, (c.blocks.getD k default).tgt, (c.blocks.getD k default).els⟩ : BlkT)))))] trivial rfl fun _ => ?_
   refine ai 1 rfl ?_
   refine aj 1 2 (v := (!(fF (c.blocks.length : Int) c.regs (⟨(c.blocks.getD k default).ins, (c.blocks.getD k default).fin, (c.blocks.getD k default).reg, (c.blocks.getD k default).tgt, (c.blocks.getD k default).els⟩ : BlkT)))) rfl rfl rfl rfl (fun a0 => ?_) (fun a0 => ?_)
   ·
    try simp only [BS] at a0
    have h2 := a0
    refine wR 1 [] 2 2 [] [(2, (.bool false))] trivial rfl fun _ => ?_
    refine ah ⟨.inr rfl, _, rfl, false, _, (fT (ap) V), (HS.forget ag), rfl, (by exact gT (cr (by omega) (gR h2)))⟩
   ·
    try simp only [BS] at a0
    have hend := a0
    refine wR 2 [] 1 0 [5] [(5, (iI 0))] trivial rfl fun _ => ?_
    refine aE (fun (mm : Nat) f H' => ∃ (i : Nat) (F' : Fz), Fz.le co F' ∧ HS (Base.of H []) F' H' [a8, b5] R ∧ aS f [(1, (.pointer (some ⟨b1, 0, none⟩))), (3, (iI (k : Int))), (4, (.pointer (some ⟨av, 0, none⟩))), (5, (iI (i : Int))), (40, (.bool (decide ((k : Int) < (c.blocks.length : Int))))), (47, ar), (48, ar), (49, a3), (50, (.bool (fF (c.blocks.length : Int) c.regs (⟨(c.blocks.getD k default).ins, (c.blocks.getD k default).fin, (c.blocks.getD k default).reg, (c.blocks.getD k default).tgt, (c.blocks.getD k default).els⟩ : BlkT)))), (51, (.bool (!(fF (c.blocks.length : Int) c.regs (⟨(c.blocks.getD k default).ins, (c.blocks.getD k default).fin, (c.blocks.getD k default).reg, (c.blocks.getD k default).tgt, (c.blocks.getD k default).els⟩ : BlkT)))))] ∧ mm = (c.blocks.getD k default).ins.length - i ∧ (i ≤ (c.blocks.getD k default).ins.length) ∧ (∀ j, j < i → ey c.params c.regs ((c.blocks.getD k default).ins.getD j default) = true)) _ ⟨0, _, fR, ag, ⟨rfl, rfl, rfl, rfl, rfl, rfl, rfl, rfl, rfl, rfl, trivial⟩, rfl, (by omega), (by exact bQ)⟩ ?_
    rintro eb e1 e0 ⟨i, ec, Z, I, a6, rfl, hi, hb⟩ ch
    refine aF _ a6 (fun _ => ?_)
    clear a6
    replace hT := hT.mono Z
    replace A := A.mono Z
    replace J := J.mono Z
    refine ao 2 rfl ?_
    refine wR 1 [(2, .o (.slice (cA (z k) 0) (c.blocks.getD k default).ins.length (cK (z k) 0)))] 52 56 [] [(56, (.bool (decide ((i : Int) < ((c.blocks.getD k default).ins.length : Int)))))] (vA (ql 40 0 (HS.hc I (i := 1) rfl) rfl rfl) trivial) rfl fun _ => ?_
    refine aj 4 5 (v := (decide ((i : Int) < ((c.blocks.getD k default).ins.length : Int)))) rfl rfl rfl rfl (fun a4 => ?_) (fun a4 => ?_)
    ·
     try simp only [BS] at a4
     refine aG rfl ?_
     refine wfv (v := (.pointer (some ⟨av, 0, none⟩))) (aR rfl rfl) ?_
     refine au (v := (.slice (cA (z k) 0) (c.blocks.getD k default).ins.length (cK (z k) 0))) (id := .l av) (aA (i := 0) rfl rfl (HS.hc I.log0 (i := 1) rfl) rfl rfl) rfl rfl (aL rfl) (kb rfl) ?_
     refine fm (iI (i : Int)) rfl rfl rfl ?_
     refine wfv (v := (.pointer (some ⟨sB (.slice (cA (z k) 0) (c.blocks.getD k default).ins.length (cK (z k) 0)), sO (.slice (cA (z k) 0) (c.blocks.getD k default).ins.length (cK (z k) 0)) + i * Rp.sz VInT, none⟩))) (bd (α := VInT) (j := (i : Int)) rfl rfl rfl rfl (SR.sv J I.log0) (by omega) (by omega)) ?_
     obtain ⟨dt, cd, b9⟩ := Sv.at (SR.sv J I.log0) (aI (x := default) (show i < (c.blocks.getD k default).ins.length from by omega))
     obtain ⟨a9, b2, rfl, c8, dd, dk, dl, dn, b3⟩ := cd
     refine au (v := (.agg ⟨[(iI ((c.blocks.getD k default).ins.getD i default).i.op), (iI ((c.blocks.getD k default).ins.getD i default).i.a), (iI ((c.blocks.getD k default).ins.getD i default).i.b), (iI ((c.blocks.getD k default).ins.getD i default).i.c), (iI ((c.blocks.getD k default).ins.getD i default).i.n), (.slice a9 ((c.blocks.getD k default).ins.getD i default).args.length b2)]⟩)) (id := .l (sB (.slice (cA (z k) 0) (c.blocks.getD k default).ins.length (cK (z k) 0)))) (fk (i := 0) rfl rfl rfl b9 rfl rfl rfl) rfl rfl (aL rfl) (kb rfl) ?_
     refine au (v := a3) (id := .l b1) (fk (i := 0) rfl rfl rfl (HS.hc I.log0 (i := 0) rfl) rfl rfl rfl) rfl rfl (aL rfl) (kb rfl) ?_
     refine bg (W := []) (aw rfl rfl rfl) rfl rfl rfl (rinstr_c ex ((c.blocks.getD k default).ins.getD i default) c (HS.call I.log0) (by omega) (by omega) (by omega) (by omega) (by omega) b3 (by omega) (by omega) A hT) (kb rfl) ?_
     rintro _ cv ⟨e4, em, a5, E, rfl, rfl⟩
     refine ⟨Wr.did E.log, fun ci b0 => ?_⟩
     replace E := HS.back I.log0 rfl E
     replace E := HS.lg E I b0
     generalize ({ cv with log := ci } : Heap) = ds at E ⊢
     have E : HS _ _ _ [_, _] _ := E
     refine wfv (v := (.bool (!(ey c.params c.regs ((c.blocks.getD k default).ins.getD i default))))) (ap_not rfl) ?_
     refine bw ?_
     refine ao 1 rfl ?_
     refine aj 1 2 (v := (!(ey c.params c.regs ((c.blocks.getD k default).ins.getD i default)))) rfl rfl rfl rfl (fun a2 => ?_) (fun a2 => ?_)
     ·
      try simp only [BS] at a2
      have h4 := a2
      refine wR 1 [] 2 2 [] [(2, (.bool false))] trivial rfl fun _ => ?_
      refine ah ⟨.inr rfl, _, rfl, false, _, (fT (fT (fT (ap) V) Z) a5), (HS.forget E), rfl, (by exact gT (cr (by omega) (blk_no (cr (by omega) h4))))⟩
     ·
      try simp only [BS] at a2
      refine wR 1 [] 57 58 [5] [(5, (iI ((i : Int) + 1)))] (vA (vi (n := (i : Int) + 1) (by omega)) trivial) rfl fun _ => ?_
      refine ch _ _ _ ?_ ⟨i + 1, _, (fT (Z) a5), E, ⟨rfl, rfl, rfl, rfl, rfl, rfl, rfl, rfl, rfl, rfl, trivial⟩, rfl, (by omega), (by exact bj hb (by assumption))⟩
      omega
    ·
     try simp only [BS] at a4
     have hal := cu hb (by omega)
     refine wR 1 [] 41 42 [3] [(3, (iI ((k : Int) + 1)))] (vA (vi (n := (k : Int) + 1) (by omega)) trivial) rfl fun _ => ?_
     refine c0 _ _ _ ?_ ⟨k + 1, _, (fT (fT (ap) V) Z), (HS.sub I (List.sublist_append_left _ _)), ⟨rfl, rfl, trivial⟩, rfl, (by omega), (by exact bj ha (gQ hal hend))⟩
     omega
  ·
   try simp only [BS] at c9
   refine wR 1 [] 2 2 [] [(2, (.bool true))] trivial rfl fun _ => ?_
   refine ah ⟨.inr rfl, _, rfl, true, _, (ap), (HS.forget aq), rfl, (by exact val_yes hlim (cu ha (by omega)))⟩
end Go.Proofs.YtlabedbmgmfbaaaDoor.m3
