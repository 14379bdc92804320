/-
 Which virtual code is valid: the program and the reference, each by a symbolic run. No condition but that the table lies as laid.
-/
import Derived.Test.YtlabedbmgmfbaaaDoorZCM2
noncomputable section
namespace Go.Proofs.YtlabedbmgmfbaaaDoor.m3
open Go.R
set_option maxRecDepth 10000
set_option linter.unusedVariables false
open m1 m2
theorem cBlk_c (ex : FuncId) (n : Int) {z : Option Addr} {A : Nat} {b_c : Nat} (c : VFnT) (H : Heap) (hn : in64 n) (hc_c : HC H.get b_c 0 [(iI c.params), (iI c.regs), (.slice z c.blocks.length A)]) (E : in64 c.params) (J : in64 c.regs) : C Tryd.prog 1 (KT 60 ex 37 tabC) 67 [(iI n), (.pointer (some ⟨b_c, 0, none⟩))] H fun v H' => ∃ (r : Bool), H' = H ∧ v = .bool r ∧ r = aK (c.blocks.length : Int) n := by
 refine aG Tryd.func67 rfl rfl ?_
 refine aj 1 rfl ?_
 refine wR 2 [] 3 3 [] [(3, (.bool false))] trivial rfl fun _ => ?_
 refine wR 1 [(5, .o (.slice z c.blocks.length A))] 3 12 [] [(3, (.bool ((decide ((0 : Int) ≤ n)) && (decide (n < (c.blocks.length : Int))))))] (vA (fun (N : (decide ((0 : Int) ≤ n)) = true) => (ql 22 2 hc_c rfl rfl)) trivial) rfl fun _ => ?_
 refine ag ⟨.inr rfl, _, rfl, ((decide ((0 : Int) ≤ n)) && (decide (n < (c.blocks.length : Int)))), rfl, rfl, (by rw [Bool.eq_iff_iff, aV]; simp)⟩
theorem kX (ex : FuncId) (n : Int) {z : Option Addr} {J : Nat} {b_c : Nat} (c : VFnT) (H : Heap) (hn : in64 n) (hc_c : HC H.get b_c 0 [(iI c.params), (iI c.regs), (.slice z c.blocks.length J)]) (A : in64 c.params) (E : in64 c.regs) : C Tryd.prog 1 (KT 60 ex 37 tabC) 67 [(iI n), (.pointer (some ⟨b_c, 0, none⟩))] H fun v H' => v = (.bool (aK (c.blocks.length : Int) n)) ∧ H' = H :=
 cq (cBlk_c ex n c H hn hc_c A E) (by rintro _ _ ⟨_, rfl, rfl, rfl⟩; exact ⟨rfl, rfl⟩)
theorem cReg_c (ex : FuncId) (n : Int) {z : Option Addr} {A : Nat} {b_c : Nat} (c : VFnT) (H : Heap) (hn : in64 n) (hc_c : HC H.get b_c 0 [(iI c.params), (iI c.regs), (.slice z c.blocks.length A)]) (E : in64 c.params) (J : in64 c.regs) : C Tryd.prog 1 (KT 60 ex 37 tabC) 68 [(iI n), (.pointer (some ⟨b_c, 0, none⟩))] H fun v H' => ∃ (r : Bool), H' = H ∧ v = .bool r ∧ r = aK c.regs n := by
 refine aG Tryd.func68 rfl rfl ?_
 refine aj 1 rfl ?_
 refine wR 2 [] 3 3 [] [(3, (.bool false))] trivial rfl fun _ => ?_
 refine wR 1 [(5, .o (iI c.regs))] 3 11 [] [(3, (.bool ((decide ((0 : Int) ≤ n)) && (decide (n < c.regs)))))] (vA (fun (N : (decide ((0 : Int) ≤ n)) = true) => (ql 3 1 hc_c rfl rfl)) trivial) rfl fun _ => ?_
 refine ag ⟨.inr rfl, _, rfl, ((decide ((0 : Int) ≤ n)) && (decide (n < c.regs))), rfl, rfl, (by rw [Bool.eq_iff_iff, aV]; simp)⟩
theorem cReg_c_q (ex : FuncId) (n : Int) {z : Option Addr} {J : Nat} {b_c : Nat} (c : VFnT) (H : Heap) (hn : in64 n) (hc_c : HC H.get b_c 0 [(iI c.params), (iI c.regs), (.slice z c.blocks.length J)]) (A : in64 c.params) (E : in64 c.regs) : C Tryd.prog 1 (KT 60 ex 37 tabC) 68 [(iI n), (.pointer (some ⟨b_c, 0, none⟩))] H fun v H' => v = (.bool (aK c.regs n)) ∧ H' = H :=
 cq (cReg_c ex n c H hn hc_c A E) (by rintro _ _ ⟨_, rfl, rfl, rfl⟩; exact ⟨rfl, rfl⟩)
theorem cRegI_c (ex : FuncId) (n : Int) {z : Option Addr} {A : Nat} {b_c : Nat} (c : VFnT) (H : Heap) (hn : in64 n) (hc_c : HC H.get b_c 0 [(iI c.params), (iI c.regs), (.slice z c.blocks.length A)]) (E : in64 c.params) (J : in64 c.regs) : C Tryd.prog 1 (KT 60 ex 37 tabC) 82 [(iI n), (.pointer (some ⟨b_c, 0, none⟩))] H fun v H' => ∃ (r : Bool), H' = H ∧ v = .bool r ∧ r = aK c.regs n := by
 refine aG Tryd.func82 rfl rfl ?_
 refine aj 1 rfl ?_
 refine wR 2 [] 3 3 [] [(3, (.bool false))] trivial rfl fun _ => ?_
 refine wR 1 [(5, .o (iI c.regs))] 3 11 [] [(3, (.bool ((decide ((0 : Int) ≤ n)) && (decide (n < c.regs)))))] (vA (fun (N : (decide ((0 : Int) ≤ n)) = true) => (ql 3 1 hc_c rfl rfl)) trivial) rfl fun _ => ?_
 refine ag ⟨.inr rfl, _, rfl, ((decide ((0 : Int) ≤ n)) && (decide (n < c.regs))), rfl, rfl, (by rw [Bool.eq_iff_iff, aV]; simp)⟩
theorem gx (ex : FuncId) (n : Int) {z : Option Addr} {J : Nat} {b_c : Nat} (c : VFnT) (H : Heap) (hn : in64 n) (hc_c : HC H.get b_c 0 [(iI c.params), (iI c.regs), (.slice z c.blocks.length J)]) (A : in64 c.params) (E : in64 c.regs) : C Tryd.prog 1 (KT 60 ex 37 tabC) 82 [(iI n), (.pointer (some ⟨b_c, 0, none⟩))] H fun v H' => v = (.bool (aK c.regs n)) ∧ H' = H :=
 cq (cRegI_c ex n c H hn hc_c A E) (by rintro _ _ ⟨_, rfl, rfl, rfl⟩; exact ⟨rfl, rfl⟩)
theorem vform_c (ex : FuncId) (op : Int) {F : Fz} {H : Heap} {R : List Fp} (hs : HS (.of H []) F H [] R) (hop : in64 op) (hT : TB 37 tabC F) : C Tryd.prog 1 (KT 60 ex 37 tabC) 83 [(iI op)] H fun v H' => ∃ (r : Int) (F' : Fz), Fz.le F F' ∧ HS (.of H []) F' H' [] R ∧ v = .int .i64 r ∧ r = az op := by
 refine aG Tryd.func83 rfl rfl ?_
 refine aj 1 rfl ?_
 refine wR 3 [] 2 2 [] [(2, (iI 0))] trivial rfl fun _ => ?_
 refine wR 1 [] 5 6 [] [(6, (.bool (op == 38)))] trivial rfl fun _ => ?_
 refine ak 1 2 (v := (op == 38)) rfl rfl rfl rfl (fun J => ?_) (fun J => ?_)
 ·
  try simp only [BS] at J
  refine wR 1 [] 2 2 [] [(2, (iI 5))] trivial rfl fun _ => ?_
  refine ag ⟨.inr rfl, _, rfl, 5, _, fR, (HS.forget hs), rfl, (by unfold az; split <;> first | rfl | omega)⟩
 ·
  try simp only [BS] at J
  refine aa ?_
  refine wm (iI op) rfl rfl rfl ?_
  refine aA (ah rfl rfl rfl) rfl rfl (m1.mInfo_c ex op (HS.call hs) (by omega) hT) ?_
  rintro _ Z ⟨x5, o5, Y, T, z, rfl, U, V, rfl, rfl⟩
  replace z := HS.back hs rfl z
  have z : HS _ _ _ [] _ := z
  refine wRo 3 2 [] 10 11 [7] [(10, (.agg ⟨[(.string ⟨⟨(aH op).name.b⟩⟩), (iI (aH op).form), (.bool (aH op).ra), (.bool (aH op).wa), (.bool (aH op).rb), (.bool (aH op).mt), (iI (aH op).words)]⟩)), (11, (.bool (infO op)))] trivial rfl fun _ => ?_
  refine aF (bE z rfl) rfl rfl ?_
  rintro _ H8 _ ⟨N, rfl, E, _⟩
  have E : HS _ _ _ [[(N, .cells [(.string ⟨⟨[]⟩⟩), (iI 0), (.bool false), (.bool false), (.bool false), (.bool false), (iI 0)] none false)]] _ := E
  refine aM (aD (q := 0) E rfl rfl rfl rfl rfl rfl rfl rfl rfl) rfl ?_
  rintro _ H9 _ ⟨A, _⟩
  have A : HS _ _ _ [[(N, .cells [(.string ⟨⟨(aH op).name.b⟩⟩), (iI (aH op).form), (.bool (aH op).ra), (.bool (aH op).wa), (.bool (aH op).rb), (.bool (aH op).mt), (iI (aH op).words)] none false)]] _ := A
  refine wa (.bool (infO op)) rfl rfl rfl ?_
  refine ae 2 rfl ?_
  refine wR 1 [(1, .o (iI (aH op).form))] 12 13 [2] [(2, (iI (aH op).form))] (vA (ql 3 1 (HS.hc A (i := 0) rfl) rfl rfl) trivial) rfl fun _ => ?_
  refine ag ⟨.inr rfl, _, rfl, (aH op).form, _, (T), (HS.forget A), rfl, (by unfold az; split <;> first | rfl | omega)⟩
theorem rinfo_c (ex : FuncId) (op : Int) {F : Fz} {H : Heap} {R : List Fp} (hs : HS (.of H []) F H [] R) (hop : in64 op) (hT : TB 37 tabC F) : C Tryd.prog 1 (KT 60 ex 37 tabC) 65 [(iI op)] H fun v H' => ∃ (x : InfT) (F' : Fz), Fz.le F F' ∧ HS (.of H []) F' H' [] R ∧ v = .agg ⟨[.string ⟨⟨x.name.b⟩⟩, .int .i64 x.form, .bool x.ra, .bool x.wa, .bool x.rb, .bool x.mt, .int .i64 x.words]⟩ ∧ in64 x.form ∧ in64 x.words ∧ x = aE op := by
 refine aG Tryd.func65 rfl rfl ?_
 refine aj 1 rfl ?_
 refine aa ?_
 refine aF (bE hs rfl) rfl rfl ?_
 rintro _ H2 _ ⟨V, rfl, E, _⟩
 have E : HS _ _ _ [[(V, .cells [(.string ⟨⟨[]⟩⟩), (iI 0), (.bool false), (.bool false), (.bool false), (.bool false), (iI 0)] none false)]] _ := E
 refine ae 3 rfl ?_
 refine wR 1 [] 5 6 [] [(6, (.bool (op == 38)))] trivial rfl fun _ => ?_
 refine ak 1 2 (v := (op == 38)) rfl rfl rfl rfl (fun Y => ?_) (fun Y => ?_)
 ·
  try simp only [BS] at Y
  refine aa ?_
  refine wRo 1 0 [] 7 7 [] [(7, (.agg ⟨[(.string ⟨⟨[]⟩⟩), (iI 5), (.bool false), (.bool true), (.bool false), (.bool false), (iI 0)]⟩))] trivial rfl fun _ => ?_
  refine aM (aD (q := 0) E rfl rfl rfl rfl rfl rfl rfl rfl rfl) rfl ?_
  rintro _ H6 _ ⟨T, _⟩
  have T : HS _ _ _ [[(V, .cells [(.string ⟨⟨[]⟩⟩), (iI 5), (.bool false), (.bool true), (.bool false), (.bool false), (iI 0)] none false)]] _ := T
  refine ae 1 rfl ?_
  refine ag ⟨.inr rfl, _, (rC rfl (ldVN rfl rfl (HS.hc T (i := 0) rfl) rfl) rN), (⟨⟨[]⟩, 5, false, true, false, false, 0⟩ : InfT), _, fR, (HS.forget T), rfl, (by first | omega | (dsimp only; omega)), (by first | omega | (dsimp only; omega)), (by unfold aE; split <;> first | rfl | omega)⟩
 ·
  try simp only [BS] at Y
  refine aa ?_
  refine wm (iI op) rfl rfl rfl ?_
  refine aA (ah rfl rfl rfl) rfl rfl (m1.rInfo_c ex op (HS.call E) (by first | omega | (dsimp only; omega)) hT) ?_
  rintro _ H7 ⟨x7, o7, F7, ad, J, rfl, al, an, rfl, rfl⟩
  replace J := HS.back E rfl J
  have J : HS _ _ _ [_] _ := J
  let U : Value := (.agg ⟨[(.string ⟨⟨(aH op).name.b⟩⟩), (iI (aH op).form), (.bool (aH op).ra), (.bool (aH op).wa), (.bool (aH op).rb), (.bool (aH op).mt), (iI (aH op).words)]⟩)
  refine wRo 3 2 [] 11 12 [8] [(11, U), (12, (.bool (infO op)))] trivial rfl fun _ => ?_
  refine aF (bE J rfl) rfl rfl ?_
  rintro _ ar _ ⟨Z, rfl, N, _⟩
  have N : HS _ _ _ [_, [(Z, .cells [(.string ⟨⟨[]⟩⟩), (iI 0), (.bool false), (.bool false), (.bool false), (.bool false), (iI 0)] none false)]] _ := N
  refine aM (aD (q := 1) N rfl rfl rfl rfl rfl rfl rfl rfl rfl) rfl ?_
  rintro _ av _ ⟨z, _⟩
  have z : HS _ _ _ [_, [(Z, .cells [(.string ⟨⟨(aH op).name.b⟩⟩), (iI (aH op).form), (.bool (aH op).ra), (.bool (aH op).wa), (.bool (aH op).rb), (.bool (aH op).mt), (iI (aH op).words)] none false)]] _ := z
  refine wa (.bool (infO op)) rfl rfl rfl ?_
  refine ae 2 rfl ?_
  refine aa ?_
  refine wRo 1 0 [(0, .o U)] 13 13 [] [(13, U)] (vA (qn 96 0 7 (HS.hc z (i := 1) rfl) rfl rfl rfl rfl) trivial) rfl fun _ => ?_
  refine aM (aD (q := 0) z rfl rfl rfl rfl rfl rfl rfl rfl rfl) rfl ?_
  rintro _ aw _ ⟨A, _⟩
  have A : HS _ _ _ [[(V, .cells [(.string ⟨⟨(aH op).name.b⟩⟩), (iI (aH op).form), (.bool (aH op).ra), (.bool (aH op).wa), (.bool (aH op).rb), (.bool (aH op).mt), (iI (aH op).words)] none false)], _] _ := A
  refine ae 1 rfl ?_
  refine ag ⟨.inr rfl, _, (rC rfl (ldVN rfl rfl (HS.hc A (i := 0) rfl) rfl) rN), (⟨⟨(aH op).name.b⟩, (aH op).form, (aH op).ra, (aH op).wa, (aH op).rb, (aH op).mt, (aH op).words⟩ : InfT), _, (ad), (HS.forget A), rfl, (by first | omega | (dsimp only; omega)), (by first | omega | (dsimp only; omega)), (by unfold aE; split <;> first | rfl | omega)⟩
theorem rOperand_c (ex : FuncId) (has : Bool) (n : Int) (regs : Int) (H : Heap) (hn : in64 n) (hregs : in64 regs) : C Tryd.prog 1 (KT 60 ex 37 tabC) 84 [(.bool has), (iI n), (iI regs)] H fun v H' => ∃ (r : Bool), H' = H ∧ v = .bool r ∧ r = dp has n regs := by
 refine aG Tryd.func84 rfl rfl ?_
 refine aj 1 rfl ?_
 refine wR 3 [] 6 6 [] [(6, (.bool false))] trivial rfl fun _ => ?_
 refine wR 1 [] 7 7 [] [(7, (.bool has))] trivial rfl fun _ => ?_
 refine ak 1 2 (v := has) rfl rfl rfl rfl (fun z => ?_) (fun z => ?_)
 ·
  have A := z
  try simp only [BS] at A
  refine wR 1 [] 8 14 [6] [(6, (.bool ((decide ((0 : Int) ≤ n)) && (decide (n < regs)))))] trivial rfl fun _ => ?_
  refine ag ⟨.inr rfl, _, rfl, ((decide ((0 : Int) ≤ n)) && (decide (n < regs))), rfl, rfl, (by rw [Bool.eq_iff_iff]; unfold dp; simp [aV, z])⟩
 ·
  have A := z
  try simp only [BS] at A
  refine wR 1 [] 15 16 [6] [(6, (.bool (n == 0)))] trivial rfl fun _ => ?_
  refine ag ⟨.inr rfl, _, rfl, (n == 0), rfl, rfl, (by rw [Bool.eq_iff_iff]; unfold dp; simp [aV, z])⟩
theorem eR (ex : FuncId) (has : Bool) (n : Int) (regs : Int) (H : Heap) (hn : in64 n) (hregs : in64 regs) : C Tryd.prog 1 (KT 60 ex 37 tabC) 84 [(.bool has), (iI n), (iI regs)] H fun v H' => v = (.bool (dp has n regs)) ∧ H' = H :=
 cq (rOperand_c ex has n regs H hn hregs) (by rintro _ _ ⟨_, rfl, rfl, rfl⟩; exact ⟨rfl, rfl⟩)
set_option maxHeartbeats 1000000 in
theorem vinstr_c (ex : FuncId) {ax : Option Addr} {ay : Nat} (c : VFnT) {J : Option Addr} {N : Nat} (iv : VInT) {F : Fz} {H : Heap} {R : List Fp} (hs : HS (.of H []) F H [] R) (d1 : in64 c.params) (d2 : in64 c.regs) (d3 : SR F (.slice ax c.blocks.length ay) c.blocks) (c8 : in64 iv.i.op) (c9 : in64 iv.i.a) (dd : in64 iv.i.b) (dk : in64 iv.i.c) (dl : in64 iv.i.n) (ad : SR F (.slice J iv.args.length N) iv.args) (hT : TB 37 tabC F) : C Tryd.prog 1 (KT 60 ex 37 tabC) 69 [(.agg ⟨[(iI c.params), (iI c.regs), (.slice ax c.blocks.length ay)]⟩), (.agg ⟨[(iI iv.i.op), (iI iv.i.a), (iI iv.i.b), (iI iv.i.c), (iI iv.i.n), (.slice J iv.args.length N)]⟩)] H fun v H' => ∃ (r : Bool) (F' : Fz), Fz.le F F' ∧ HS (.of H []) F' H' [] R ∧ v = .bool r ∧ r = eu c.params c.regs iv := by
 refine aG Tryd.func69 rfl rfl ?_
 refine aj 1 rfl ?_
 refine aa ?_
 refine aF (bB hs rfl rfl) rfl rfl ?_
 rintro _ H2 _ ⟨b1, rfl, b5, _⟩
 let ci : Fp := [(b1, .cells [(iI c.params), (iI c.regs), (.slice ax c.blocks.length ay)] none false)]
 have b5 : HS _ _ _ [ci] _ := b5
 refine aF (bB b5 rfl rfl) rfl rfl ?_
 rintro _ H4 _ ⟨b3, rfl, a1, _⟩
 let cl : Fp := [(b3, .cells [(iI iv.i.op), (iI iv.i.a), (iI iv.i.b), (iI iv.i.c), (iI iv.i.n), (.slice J iv.args.length N)] none false)]
 have a1 : HS _ _ _ [_, cl] _ := a1
 refine wa (.bool false) rfl rfl rfl ?_
 refine ae 2 rfl ?_
 refine aa ?_
 let co : Value := (.agg ⟨[(iI iv.i.op), (iI iv.i.a), (iI iv.i.b), (iI iv.i.c), (iI iv.i.n)]⟩)
 refine wRo 2 0 [(1, .o co)] 13 14 [] [(14, co)] (vA (qn 45 0 5 (HS.hc a1 (i := 1) rfl) rfl rfl rfl rfl) trivial) rfl fun _ => ?_
 refine aF (bE a1 rfl) rfl rfl ?_
 rintro _ H7 _ ⟨b6, rfl, b7, _⟩
 have b7 : HS _ _ _ [_, _, [(b6, .cells [(iI 0), (iI 0), (iI 0), (iI 0), (iI 0)] none false)]] _ := b7
 refine aM (aD (q := 2) b7 rfl rfl rfl rfl rfl rfl rfl rfl rfl) rfl ?_
 rintro _ H8 _ ⟨Y, _⟩
 let c0 : Fp := [(b6, .cells [(iI iv.i.op), (iI iv.i.a), (iI iv.i.b), (iI iv.i.c), (iI iv.i.n)] none false)]
 have Y : HS _ _ _ [_, _, c0] _ := Y
 refine ae 3 rfl ?_
 refine wR 1 [(1, .o (iI iv.i.op)), (2, .o (.bool (alV iv.i.op))), (6, .o (.slice J iv.args.length N)), (12, .o (iI iv.i.op)), (16, .o (.slice J iv.args.length N))] 15 35 [] [(35, (.bool (((!(alV iv.i.op)) || (decide ((6 : Int) < (iv.args.length : Int)))) || ((iv.i.op != 6) && (decide ((0 : Int) < (iv.args.length : Int)))))))] (vA (ql 3 0 (HS.hc Y (i := 2) rfl) rfl rfl) (vA (m1.kw ex iv.i.op H8) (vA (fun (A : (!(alV iv.i.op)) = false) => (ql 25 5 (HS.hc Y (i := 1) rfl) rfl rfl)) (vA (fun (A : ((!(alV iv.i.op)) || (decide ((6 : Int) < (iv.args.length : Int)))) = false) => (ql 3 0 (HS.hc Y (i := 2) rfl) rfl rfl)) (vA (fun (A : (iv.i.op != 6) = true) (V : ((!(alV iv.i.op)) || (decide ((6 : Int) < (iv.args.length : Int)))) = false) => (ql 25 5 (HS.hc Y (i := 1) rfl) rfl rfl)) trivial))))) rfl fun _ => ?_
 refine ak 1 2 (v := (((!(alV iv.i.op)) || (decide ((6 : Int) < (iv.args.length : Int)))) || ((iv.i.op != 6) && (decide ((0 : Int) < (iv.args.length : Int)))))) rfl rfl rfl rfl (fun aw => ?_) (fun aw => ?_)
 ·
  try simp only [BS] at aw
  have hbad := aw
  refine wR 1 [] 4 4 [] [(4, (.bool false))] trivial rfl fun _ => ?_
  refine ag ⟨.inr rfl, _, rfl, false, _, fR, (HS.forget Y), rfl, (by exact vin_bad hbad)⟩
 ·
  try simp only [BS] at aw
  have hal : alV iv.i.op = true := (aw).1.1
  have h6 : iv.i.op = 6 ∨ iv.args.length = 0 := by omega
  have ch : iv.args.length ≤ 6 := by omega
  refine wR 3 [] 36 36 [6] [(6, (.func (.func 82) #[] #[(.pointer (some ⟨b1, 0, none⟩))]))] trivial rfl fun _ => ?_
  refine wR 2 [(1, .o (.slice J iv.args.length N))] 37 40 [] [(38, (.slice J iv.args.length N)), (39, (iI (iv.args.length : Int))), (40, (iI 0))] (vA (ql 25 5 (HS.hc Y (i := 1) rfl) rfl rfl) trivial) rfl fun _ => ?_
  refine ap (fun (mm : Nat) f H' => ∃ (k : Nat) (F' : Fz), Fz.le F F' ∧ HS (Base.of H []) F' H' [ci, cl, c0] R ∧ aI f [(2, (.pointer (some ⟨b1, 0, none⟩))), (5, (.pointer (some ⟨b6, 0, none⟩))), (6, (.func (.func 82) #[] #[(.pointer (some ⟨b1, 0, none⟩))])), (38, (.slice J iv.args.length N)), (39, (iI (iv.args.length : Int))), (40, (iI (k : Int)))] ∧ mm = iv.args.length - k ∧ (k ≤ iv.args.length) ∧ (∀ j, j < k → aK c.regs (iv.args.getD j default) = true)) _ ⟨0, _, fR, Y, (agC rfl (agC rfl (agC rfl (agC rfl (agC rfl (agC rfl agN)))))), rfl, (by first | assumption | omega | (simp at *; omega)), (by exact eg)⟩ ?_
  rintro d4 es c4 ⟨k, ea, E, T, b2, rfl, hk, ha⟩ c3
  refine au _ b2 (fun _ => ?_)
  clear b2
  replace hT := hT.mono E
  replace ad := ad.mono E
  refine aj 1 rfl ?_
  refine wR 2 [] 41 41 [] [(41, (.bool (decide ((k : Int) < (iv.args.length : Int)))))] trivial rfl fun _ => ?_
  refine ak 4 5 (v := (decide ((k : Int) < (iv.args.length : Int)))) rfl rfl rfl rfl (fun a3 => ?_) (fun a3 => ?_)
  ·
   try simp only [BS] at a3
   obtain ⟨dt, b9⟩ := Sv.view (SR.sv ad T)
   have ez := fI (b9 k)
   refine wR 2 [(1, .o (iI (iv.args.getD k 0)))] 42 43 [8] [(8, (iI (iv.args.getD k 0)))] (vA (Sv.ix (j := (k : Int)) (SR.sv ad T) (by omega) (by omega)) (vA (ql 3 0 (vI (b9 k) (by omega)) rfl rfl) trivial)) rfl fun _ => ?_
   refine wR 1 [(2, .o (.bool (aK (⟨c.params, c.regs, c.blocks⟩ : VFnT).regs (iv.args.getD k 0))))] 44 47 [] [(47, (.bool (!(aK (⟨c.params, c.regs, c.blocks⟩ : VFnT).regs (iv.args.getD k 0)))))] (vA (gx ex (iv.args.getD k 0) (⟨c.params, c.regs, c.blocks⟩ : VFnT) c4 (by omega) (HS.hc T (i := 0) rfl) (by omega) (by omega)) trivial) rfl fun _ => ?_
   refine ak 1 2 (v := (!(aK (⟨c.params, c.regs, c.blocks⟩ : VFnT).regs (iv.args.getD k 0)))) rfl rfl rfl rfl (fun a0 => ?_) (fun a0 => ?_)
   ·
    try simp only [BS] at a0
    have c6 := a0
    refine wR 1 [] 4 4 [] [(4, (.bool false))] trivial rfl fun _ => ?_
    refine ag ⟨.inr rfl, _, rfl, false, _, (E), (HS.forget T), rfl, (by exact vin_no (dI (by omega) c6))⟩
   ·
    try simp only [BS] at a0
    refine wR 1 [] 40 40 [48] [(40, (iI ((k : Int) + 1)))] (vA (vi (n := (k : Int) + 1) (by omega)) trivial) rfl fun _ => ?_
    refine c3 _ _ _ ?_ ⟨k + 1, _, (E), T, (agC rfl (agC rfl (agC rfl (agC rfl (agC rfl (agC rfl agN)))))), rfl, (by first | assumption | omega | (simp at *; omega)), (by exact cR ha (by assumption))⟩
    omega
  ·
   try simp only [BS] at a3
   have hall := fc ha (by omega)
   refine wR 3 [] 1 0 [9, 10, 11, 12] [(9, (.bool false)), (10, (.bool false)), (11, (.bool false)), (12, (.bool false))] trivial rfl fun _ => ?_
   refine aa ?_
   refine wRo 2 0 [(1, .o (iI iv.i.op))] 49 50 [] [(50, (iI iv.i.op))] (vA (ql 3 0 (HS.hc T (i := 2) rfl) rfl rfl) trivial) rfl fun _ => ?_
   refine aA (ah rfl rfl rfl) rfl rfl (vform_c ex iv.i.op (HS.call T) (by omega) hT) ?_
   rintro _ ar ⟨e0, em, U, z, rfl, rfl⟩
   replace z := HS.back T rfl z
   have z : HS _ _ _ [_, _, _] _ := z
   refine ae 3 rfl ?_
   refine wR 1 [] 52 53 [] [(52, (.bool (az iv.i.op == 2)))] trivial rfl fun _ => ?_
   refine bP (fun f H' => ∃ (av : Bool) (bv : Bool) (dv : Bool) (nv : Bool), H' = ar ∧ aI f [(2, (.pointer (some ⟨b1, 0, none⟩))), (5, (.pointer (some ⟨b6, 0, none⟩))), (6, (.func (.func 82) #[] #[(.pointer (some ⟨b1, 0, none⟩))])), (9, (.bool av)), (10, (.bool bv)), (11, (.bool dv)), (12, (.bool nv))] ∧ (av = decide (az iv.i.op ≠ 1)) ∧ (bv = decide (az iv.i.op = 3 ∨ az iv.i.op = 4 ∨ az iv.i.op = 7)) ∧ (dv = decide (az iv.i.op = 4)) ∧ (nv = decide (az iv.i.op = 5 ∨ az iv.i.op = 7))) (fun Z => ?_) ?_
   ·
    refine ak 0 1 (v := (az iv.i.op == 2)) rfl rfl rfl rfl (fun a4 => ?_) (fun a4 => ?_)
    ·
     try simp only [BS] at a4
     refine wR 0 [] 1 0 [9] [(9, (.bool true))] trivial rfl fun _ => ?_
     exact Z _ _ ⟨true, false, false, false, rfl, (agC rfl (agC rfl (agC rfl (agC rfl (agC rfl (agC rfl (agC rfl agN))))))), (by first | (symm; apply decide_eq_true; omega) | (symm; apply decide_eq_false; have hf := aJ hal; omega)), (by first | (symm; apply decide_eq_true; omega) | (symm; apply decide_eq_false; have hf := aJ hal; omega)), (by first | (symm; apply decide_eq_true; omega) | (symm; apply decide_eq_false; have hf := aJ hal; omega)), (by first | (symm; apply decide_eq_true; omega) | (symm; apply decide_eq_false; have hf := aJ hal; omega))⟩
    ·
     try simp only [BS] at a4
     refine wR 1 [] 54 55 [] [(54, (.bool (az iv.i.op == 3)))] trivial rfl fun _ => ?_
     refine ak 0 1 (v := (az iv.i.op == 3)) rfl rfl rfl rfl (fun a5 => ?_) (fun a5 => ?_)
     ·
      try simp only [BS] at a5
      refine wR 0 [] 1 0 [9, 10] [(9, (.bool true)), (10, (.bool true))] trivial rfl fun _ => ?_
      exact Z _ _ ⟨true, true, false, false, rfl, (agC rfl (agC rfl (agC rfl (agC rfl (agC rfl (agC rfl (agC rfl agN))))))), (by first | (symm; apply decide_eq_true; omega) | (symm; apply decide_eq_false; have hf := aJ hal; omega)), (by first | (symm; apply decide_eq_true; omega) | (symm; apply decide_eq_false; have hf := aJ hal; omega)), (by first | (symm; apply decide_eq_true; omega) | (symm; apply decide_eq_false; have hf := aJ hal; omega)), (by first | (symm; apply decide_eq_true; omega) | (symm; apply decide_eq_false; have hf := aJ hal; omega))⟩
     ·
      try simp only [BS] at a5
      refine wR 1 [] 56 57 [] [(56, (.bool (az iv.i.op == 4)))] trivial rfl fun _ => ?_
      refine ak 0 1 (v := (az iv.i.op == 4)) rfl rfl rfl rfl (fun a6 => ?_) (fun a6 => ?_)
      ·
       try simp only [BS] at a6
       refine wR 0 [] 1 0 [9, 10, 11] [(9, (.bool true)), (10, (.bool true)), (11, (.bool true))] trivial rfl fun _ => ?_
       exact Z _ _ ⟨true, true, true, false, rfl, (agC rfl (agC rfl (agC rfl (agC rfl (agC rfl (agC rfl (agC rfl agN))))))), (by first | (symm; apply decide_eq_true; omega) | (symm; apply decide_eq_false; have hf := aJ hal; omega)), (by first | (symm; apply decide_eq_true; omega) | (symm; apply decide_eq_false; have hf := aJ hal; omega)), (by first | (symm; apply decide_eq_true; omega) | (symm; apply decide_eq_false; have hf := aJ hal; omega)), (by first | (symm; apply decide_eq_true; omega) | (symm; apply decide_eq_false; have hf := aJ hal; omega))⟩
      ·
       try simp only [BS] at a6
       refine wR 1 [] 58 59 [] [(58, (.bool (az iv.i.op == 5)))] trivial rfl fun _ => ?_
       refine ak 0 1 (v := (az iv.i.op == 5)) rfl rfl rfl rfl (fun a7 => ?_) (fun a7 => ?_)
       ·
        try simp only [BS] at a7
        refine wR 0 [] 1 0 [9, 12] [(9, (.bool true)), (12, (.bool true))] trivial rfl fun _ => ?_
        exact Z _ _ ⟨true, false, false, true, rfl, (agC rfl (agC rfl (agC rfl (agC rfl (agC rfl (agC rfl (agC rfl agN))))))), (by first | (symm; apply decide_eq_true; omega) | (symm; apply decide_eq_false; have hf := aJ hal; omega)), (by first | (symm; apply decide_eq_true; omega) | (symm; apply decide_eq_false; have hf := aJ hal; omega)), (by first | (symm; apply decide_eq_true; omega) | (symm; apply decide_eq_false; have hf := aJ hal; omega)), (by first | (symm; apply decide_eq_true; omega) | (symm; apply decide_eq_false; have hf := aJ hal; omega))⟩
       ·
        try simp only [BS] at a7
        refine wR 1 [] 60 61 [] [(60, (.bool (az iv.i.op == 7)))] trivial rfl fun _ => ?_
        refine ak 0 0 (v := (az iv.i.op == 7)) rfl rfl rfl rfl (fun a8 => ?_) (fun a8 => ?_)
        ·
         try simp only [BS] at a8
         refine wR 0 [] 1 0 [9, 10, 12] [(9, (.bool true)), (10, (.bool true)), (12, (.bool true))] trivial rfl fun _ => ?_
         exact Z _ _ ⟨true, true, false, true, rfl, (agC rfl (agC rfl (agC rfl (agC rfl (agC rfl (agC rfl (agC rfl agN))))))), (by first | (symm; apply decide_eq_true; omega) | (symm; apply decide_eq_false; have hf := aJ hal; omega)), (by first | (symm; apply decide_eq_true; omega) | (symm; apply decide_eq_false; have hf := aJ hal; omega)), (by first | (symm; apply decide_eq_true; omega) | (symm; apply decide_eq_false; have hf := aJ hal; omega)), (by first | (symm; apply decide_eq_true; omega) | (symm; apply decide_eq_false; have hf := aJ hal; omega))⟩
        ·
         try simp only [BS] at a8
         exact Z _ _ ⟨false, false, false, false, rfl, (agC rfl (agC rfl (agC rfl (agC rfl (agC rfl (agC rfl (agC rfl agN))))))), (by first | (symm; apply decide_eq_true; omega) | (symm; apply decide_eq_false; have hf := aJ hal; omega)), (by first | (symm; apply decide_eq_true; omega) | (symm; apply decide_eq_false; have hf := aJ hal; omega)), (by first | (symm; apply decide_eq_true; omega) | (symm; apply decide_eq_false; have hf := aJ hal; omega)), (by first | (symm; apply decide_eq_true; omega) | (symm; apply decide_eq_false; have hf := aJ hal; omega))⟩
   ·
    rintro et ar ⟨av, bv, dv, nv, rfl, b4, hav, hbv, hdv, hnv⟩
    refine au _ b4 (fun _ => ?_)
    clear b4
    refine aj 4 rfl ?_
    refine wR 1 [(4, .o (iI iv.i.a)), (5, .o (.bool (aK (⟨c.params, c.regs, c.blocks⟩ : VFnT).regs iv.i.a))), (13, .o (iI iv.i.b)), (14, .o (.bool (aK (⟨c.params, c.regs, c.blocks⟩ : VFnT).regs iv.i.b))), (23, .o (iI iv.i.c)), (24, .o (.bool (aK (⟨c.params, c.regs, c.blocks⟩ : VFnT).regs iv.i.c))), (33, .o (iI iv.i.a)), (42, .o (iI iv.i.b)), (51, .o (iI iv.i.c)), (60, .o (iI iv.i.n))] 62 125 [] [(125, (.bool (((((((av && (!(aK (⟨c.params, c.regs, c.blocks⟩ : VFnT).regs iv.i.a))) || (bv && (!(aK (⟨c.params, c.regs, c.blocks⟩ : VFnT).regs iv.i.b)))) || (dv && (!(aK (⟨c.params, c.regs, c.blocks⟩ : VFnT).regs iv.i.c)))) || ((!av) && (iv.i.a != 0))) || ((!bv) && (iv.i.b != 0))) || ((!dv) && (iv.i.c != 0))) || ((!nv) && (iv.i.n != 0)))))] (vA (fun (A : av = true) => (ql 3 1 (HS.hc z (i := 2) rfl) rfl rfl)) (vA (fun (A : av = true) => (gx ex iv.i.a (⟨c.params, c.regs, c.blocks⟩ : VFnT) ar (by (try simp only [BS] at A); omega) (HS.hc z (i := 0) rfl) (by (try simp only [BS] at A); omega) (by (try simp only [BS] at A); omega))) (vA (fun (A : bv = true) (V : (av && (!(aK (⟨c.params, c.regs, c.blocks⟩ : VFnT).regs iv.i.a))) = false) => (ql 3 2 (HS.hc z (i := 2) rfl) rfl rfl)) (vA (fun (A : bv = true) (V : (av && (!(aK (⟨c.params, c.regs, c.blocks⟩ : VFnT).regs iv.i.a))) = false) => (gx ex iv.i.b (⟨c.params, c.regs, c.blocks⟩ : VFnT) ar (by (try simp only [BS] at A V); omega) (HS.hc z (i := 0) rfl) (by (try simp only [BS] at A V); omega) (by (try simp only [BS] at A V); omega))) (vA (fun (A : dv = true) (V : ((av && (!(aK (⟨c.params, c.regs, c.blocks⟩ : VFnT).regs iv.i.a))) || (bv && (!(aK (⟨c.params, c.regs, c.blocks⟩ : VFnT).regs iv.i.b)))) = false) => (ql 3 3 (HS.hc z (i := 2) rfl) rfl rfl)) (vA (fun (A : dv = true) (V : ((av && (!(aK (⟨c.params, c.regs, c.blocks⟩ : VFnT).regs iv.i.a))) || (bv && (!(aK (⟨c.params, c.regs, c.blocks⟩ : VFnT).regs iv.i.b)))) = false) => (gx ex iv.i.c (⟨c.params, c.regs, c.blocks⟩ : VFnT) ar (by (try simp only [BS] at A V); omega) (HS.hc z (i := 0) rfl) (by (try simp only [BS] at A V); omega) (by (try simp only [BS] at A V); omega))) (vA (fun (A : (!av) = true) (V : (((av && (!(aK (⟨c.params, c.regs, c.blocks⟩ : VFnT).regs iv.i.a))) || (bv && (!(aK (⟨c.params, c.regs, c.blocks⟩ : VFnT).regs iv.i.b)))) || (dv && (!(aK (⟨c.params, c.regs, c.blocks⟩ : VFnT).regs iv.i.c)))) = false) => (ql 3 1 (HS.hc z (i := 2) rfl) rfl rfl)) (vA (fun (A : (!bv) = true) (V : ((((av && (!(aK (⟨c.params, c.regs, c.blocks⟩ : VFnT).regs iv.i.a))) || (bv && (!(aK (⟨c.params, c.regs, c.blocks⟩ : VFnT).regs iv.i.b)))) || (dv && (!(aK (⟨c.params, c.regs, c.blocks⟩ : VFnT).regs iv.i.c)))) || ((!av) && (iv.i.a != 0))) = false) => (ql 3 2 (HS.hc z (i := 2) rfl) rfl rfl)) (vA (fun (A : (!dv) = true) (V : (((((av && (!(aK (⟨c.params, c.regs, c.blocks⟩ : VFnT).regs iv.i.a))) || (bv && (!(aK (⟨c.params, c.regs, c.blocks⟩ : VFnT).regs iv.i.b)))) || (dv && (!(aK (⟨c.params, c.regs, c.blocks⟩ : VFnT).regs iv.i.c)))) || ((!av) && (iv.i.a != 0))) || ((!bv) && (iv.i.b != 0))) = false) => (ql 3 3 (HS.hc z (i := 2) rfl) rfl rfl)) (vA (fun (A : (!nv) = true) (V : ((((((av && (!(aK (⟨c.params, c.regs, c.blocks⟩ : VFnT).regs iv.i.a))) || (bv && (!(aK (⟨c.params, c.regs, c.blocks⟩ : VFnT).regs iv.i.b)))) || (dv && (!(aK (⟨c.params, c.regs, c.blocks⟩ : VFnT).regs iv.i.c)))) || ((!av) && (iv.i.a != 0))) || ((!bv) && (iv.i.b != 0))) || ((!dv) && (iv.i.c != 0))) = false) => (ql 2 4 (HS.hc z (i := 2) rfl) rfl rfl)) trivial)))))))))) rfl fun _ => ?_
    refine ak 1 3 (v := (((((((av && (!(aK (⟨c.params, c.regs, c.blocks⟩ : VFnT).regs iv.i.a))) || (bv && (!(aK (⟨c.params, c.regs, c.blocks⟩ : VFnT).regs iv.i.b)))) || (dv && (!(aK (⟨c.params, c.regs, c.blocks⟩ : VFnT).regs iv.i.c)))) || ((!av) && (iv.i.a != 0))) || ((!bv) && (iv.i.b != 0))) || ((!dv) && (iv.i.c != 0))) || ((!nv) && (iv.i.n != 0)))) rfl rfl rfl rfl (fun al => ?_) (fun al => ?_)
    ·
     have a9 := al
     try simp only [BS] at a9
     have c7 := al
     refine wR 1 [] 4 4 [] [(4, (.bool false))] trivial rfl fun _ => ?_
     refine ag ⟨.inr rfl, _, rfl, false, _, (fT (E) U), (HS.forget z), rfl, (by exact vin_bad3v hal h6 ch hall hav hbv hdv hnv c7)⟩
    ·
     have a9 := al
     try simp only [BS] at a9
     have hgood := vin_good3v (params := c.params) hal h6 ch hall hav hbv hdv hnv al
     refine wR 3 [(1, .o (iI iv.i.op))] 126 127 [] [(127, (iI iv.i.op))] (vA (ql 3 0 (HS.hc z (i := 2) rfl) rfl rfl) trivial) rfl fun _ => ?_
     refine wR 1 [] 128 129 [] [(128, (.bool (iv.i.op == 33)))] trivial rfl fun _ => ?_
     refine ak 1 1 (v := (iv.i.op == 33)) rfl rfl rfl rfl (fun bb => ?_) (fun bb => ?_)
     ·
      try simp only [BS] at bb
      refine wR 1 [(1, .o (iI iv.i.n)), (5, .o (iI iv.i.n))] 130 137 [4] [(4, (.bool ((decide ((-4194304 : Int) ≤ iv.i.n)) && (decide (iv.i.n < 4194304)))))] (vA (ql 2 4 (HS.hc z (i := 2) rfl) rfl rfl) (vA (fun (A : (decide ((-4194304 : Int) ≤ iv.i.n)) = true) => (ql 2 4 (HS.hc z (i := 2) rfl) rfl rfl)) trivial)) rfl fun _ => ?_
      refine ag ⟨.inr rfl, _, rfl, ((decide ((-4194304 : Int) ≤ iv.i.n)) && (decide (iv.i.n < 4194304))), _, (fT (E) U), (HS.forget z), rfl, (by rw [hgood.1]; first | exact (df hal hgood.2 (by omega) (by omega) (by omega) (by omega)).symm | (unfold gM; (repeat' split) <;> first | omega | rfl | (rw [Bool.eq_iff_iff] <;> simp)))⟩
     ·
      try simp only [BS] at bb
      refine wR 1 [] 138 139 [] [(138, (.bool (iv.i.op == 6)))] trivial rfl fun _ => ?_
      refine ak 1 2 (v := (iv.i.op == 6)) rfl rfl rfl rfl (fun bk => ?_) (fun bk => ?_)
      ·
       try simp only [BS] at bk
       refine wR 1 [(1, .o (iI iv.i.n)), (5, .o (iI iv.i.n))] 140 147 [4] [(4, (.bool ((decide ((0 : Int) ≤ iv.i.n)) && (decide (iv.i.n < 8)))))] (vA (ql 2 4 (HS.hc z (i := 2) rfl) rfl rfl) (vA (fun (A : (decide ((0 : Int) ≤ iv.i.n)) = true) => (ql 2 4 (HS.hc z (i := 2) rfl) rfl rfl)) trivial)) rfl fun _ => ?_
       refine ag ⟨.inr rfl, _, rfl, ((decide ((0 : Int) ≤ iv.i.n)) && (decide (iv.i.n < 8))), _, (fT (E) U), (HS.forget z), rfl, (by rw [hgood.1]; first | exact (df hal hgood.2 (by omega) (by omega) (by omega) (by omega)).symm | (unfold gM; (repeat' split) <;> first | omega | rfl | (rw [Bool.eq_iff_iff] <;> simp)))⟩
      ·
       try simp only [BS] at bk
       refine wR 1 [] 148 149 [] [(148, (.bool (iv.i.op == 34)))] trivial rfl fun _ => ?_
       refine ak 1 0 (v := (iv.i.op == 34)) rfl rfl rfl rfl (fun an => ?_) (fun an => ?_)
       ·
        have bl := an
        try simp only [BS] at bl
        refine bp 1 (v := (iv.i.op == 34)) rfl an rfl rfl ?_
        refine wR 1 [(1, .o (iI iv.i.n)), (5, .o (iI iv.i.n))] 151 158 [4] [(4, (.bool ((decide ((0 : Int) ≤ iv.i.n)) && (decide (iv.i.n < 4)))))] (vA (ql 2 4 (HS.hc z (i := 2) rfl) rfl rfl) (vA (fun (A : (decide ((0 : Int) ≤ iv.i.n)) = true) => (ql 2 4 (HS.hc z (i := 2) rfl) rfl rfl)) trivial)) rfl fun _ => ?_
        refine ag ⟨.inr rfl, _, rfl, ((decide ((0 : Int) ≤ iv.i.n)) && (decide (iv.i.n < 4))), _, (fT (E) U), (HS.forget z), rfl, (by rw [hgood.1]; first | exact (df hal hgood.2 (by omega) (by omega) (by omega) (by omega)).symm | (unfold gM; (repeat' split) <;> first | omega | rfl | (rw [Bool.eq_iff_iff] <;> simp)))⟩
       ·
        have bl := an
        try simp only [BS] at bl
        refine wR 1 [] 148 150 [] [(148, (.bool (iv.i.op == 35)))] trivial rfl fun _ => ?_
        refine ak 1 1 (v := (iv.i.op == 35)) rfl rfl rfl rfl (fun bz => ?_) (fun bz => ?_)
        ·
         try simp only [BS] at bz
         refine wR 1 [(1, .o (iI iv.i.n)), (5, .o (iI iv.i.n))] 151 158 [4] [(4, (.bool ((decide ((0 : Int) ≤ iv.i.n)) && (decide (iv.i.n < 4)))))] (vA (ql 2 4 (HS.hc z (i := 2) rfl) rfl rfl) (vA (fun (A : (decide ((0 : Int) ≤ iv.i.n)) = true) => (ql 2 4 (HS.hc z (i := 2) rfl) rfl rfl)) trivial)) rfl fun _ => ?_
         refine ag ⟨.inr rfl, _, rfl, ((decide ((0 : Int) ≤ iv.i.n)) && (decide (iv.i.n < 4))), _, (fT (E) U), (HS.forget z), rfl, (by rw [hgood.1]; first | exact (df hal hgood.2 (by omega) (by omega) (by omega) (by omega)).symm | (unfold gM; (repeat' split) <;> first | omega | rfl | (rw [Bool.eq_iff_iff] <;> simp)))⟩
        ·
         try simp only [BS] at bz
         refine wR 1 [] 159 160 [] [(159, (.bool (iv.i.op == 38)))] trivial rfl fun _ => ?_
         refine ak 1 3 (v := (iv.i.op == 38)) rfl rfl rfl rfl (fun b0 => ?_) (fun b0 => ?_)
         ·
          try simp only [BS] at b0
          refine wR 1 [(1, .o (iI iv.i.n)), (5, .o (iI iv.i.n)), (7, .o (iI c.params))] 161 170 [4] [(4, (.bool ((decide ((0 : Int) ≤ iv.i.n)) && (decide (iv.i.n < c.params)))))] (vA (ql 2 4 (HS.hc z (i := 2) rfl) rfl rfl) (vA (fun (A : (decide ((0 : Int) ≤ iv.i.n)) = true) => (ql 2 4 (HS.hc z (i := 2) rfl) rfl rfl)) (vA (fun (A : (decide ((0 : Int) ≤ iv.i.n)) = true) => (ql 3 0 (HS.hc z (i := 0) rfl) rfl rfl)) trivial))) rfl fun _ => ?_
          refine ag ⟨.inr rfl, _, rfl, ((decide ((0 : Int) ≤ iv.i.n)) && (decide (iv.i.n < c.params))), _, (fT (E) U), (HS.forget z), rfl, (by rw [hgood.1]; first | exact (df hal hgood.2 (by omega) (by omega) (by omega) (by omega)).symm | (unfold gM; (repeat' split) <;> first | omega | rfl | (rw [Bool.eq_iff_iff] <;> simp)))⟩
         ·
          try simp only [BS] at b0
          refine wR 1 [] 4 4 [] [(4, (.bool true))] trivial rfl fun _ => ?_
          refine ag ⟨.inr rfl, _, rfl, true, _, (fT (E) U), (HS.forget z), rfl, (by rw [hgood.1]; first | exact (df hal hgood.2 (by omega) (by omega) (by omega) (by omega)).symm | (unfold gM; (repeat' split) <;> first | omega | rfl | (rw [Bool.eq_iff_iff] <;> simp)))⟩
set_option maxHeartbeats 1000000 in
theorem rinstr_c (ex : FuncId) {N : Option Addr} {T : Nat} (iv : VInT) {an : Option Addr} {av : Nat} (c : VFnT) {F : Fz} {H : Heap} {R : List Fp} (hs : HS (.of H []) F H [] R) (co : in64 iv.i.op) (c0 : in64 iv.i.a) (c3 : in64 iv.i.b) (c4 : in64 iv.i.c) (c5 : in64 iv.i.n) (V : SR F (.slice N iv.args.length T) iv.args) (c8 : in64 c.params) (c9 : in64 c.regs) (dd : SR F (.slice an c.blocks.length av) c.blocks) (hT : TB 37 tabC F) : C Tryd.prog 1 (KT 60 ex 37 tabC) 71 [(.agg ⟨[(iI iv.i.op), (iI iv.i.a), (iI iv.i.b), (iI iv.i.c), (iI iv.i.n), (.slice N iv.args.length T)]⟩), (.agg ⟨[(iI c.params), (iI c.regs), (.slice an c.blocks.length av)]⟩)] H fun v H' => ∃ (r : Bool) (F' : Fz), Fz.le F F' ∧ HS (.of H []) F' H' [] R ∧ v = .bool r ∧ r = eu c.params c.regs iv := by
 refine aG Tryd.func71 rfl rfl ?_
 refine aj 1 rfl ?_
 refine aa ?_
 refine aF (bB hs rfl rfl) rfl rfl ?_
 rintro _ H2 _ ⟨b1, rfl, a9, _⟩
 let bl : Fp := [(b1, .cells [(iI iv.i.op), (iI iv.i.a), (iI iv.i.b), (iI iv.i.c), (iI iv.i.n), (.slice N iv.args.length T)] none false)]
 have a9 : HS _ _ _ [bl] _ := a9
 refine aF (bB a9 rfl rfl) rfl rfl ?_
 rintro _ H4 _ ⟨b3, rfl, aw, _⟩
 let bz : Fp := [(b3, .cells [(iI c.params), (iI c.regs), (.slice an c.blocks.length av)] none false)]
 have aw : HS _ _ _ [_, bz] _ := aw
 refine wa (.bool false) rfl rfl rfl ?_
 refine ae 2 rfl ?_
 refine aa ?_
 let b0 : Value := (.agg ⟨[(iI iv.i.op), (iI iv.i.a), (iI iv.i.b), (iI iv.i.c), (iI iv.i.n)]⟩)
 refine wRo 2 0 [(1, .o b0)] 10 11 [] [(11, b0)] (vA (qn 45 0 5 (HS.hc aw (i := 0) rfl) rfl rfl rfl rfl) trivial) rfl fun _ => ?_
 refine aF (bE aw rfl) rfl rfl ?_
 rintro _ H7 _ ⟨b6, rfl, bb, _⟩
 have bb : HS _ _ _ [_, _, [(b6, .cells [(iI 0), (iI 0), (iI 0), (iI 0), (iI 0)] none false)]] _ := bb
 refine aM (aD (q := 2) bb rfl rfl rfl rfl rfl rfl rfl rfl rfl) rfl ?_
 rintro _ H8 _ ⟨Y, _⟩
 let b2 : Fp := [(b6, .cells [(iI iv.i.op), (iI iv.i.a), (iI iv.i.b), (iI iv.i.c), (iI iv.i.n)] none false)]
 have Y : HS _ _ _ [_, _, b2] _ := Y
 refine ae 3 rfl ?_
 refine wR 1 [(1, .o (iI iv.i.op)), (2, .o (.bool (alV iv.i.op))), (6, .o (iI iv.i.op)), (10, .o (.slice N iv.args.length T)), (17, .o (.slice N iv.args.length T))] 12 32 [] [(32, (.bool (((!(alV iv.i.op)) || ((iv.i.op != 6) && (decide ((0 : Int) < (iv.args.length : Int))))) || (decide ((6 : Int) < (iv.args.length : Int))))))] (vA (ql 3 0 (HS.hc Y (i := 2) rfl) rfl rfl) (vA (m1.ralw_c_q ex iv.i.op H8) (vA (fun (A : (!(alV iv.i.op)) = false) => (ql 3 0 (HS.hc Y (i := 2) rfl) rfl rfl)) (vA (fun (A : (iv.i.op != 6) = true) (g2 : (!(alV iv.i.op)) = false) => (ql 25 5 (HS.hc Y (i := 0) rfl) rfl rfl)) (vA (fun (A : ((!(alV iv.i.op)) || ((iv.i.op != 6) && (decide ((0 : Int) < (iv.args.length : Int))))) = false) => (ql 25 5 (HS.hc Y (i := 0) rfl) rfl rfl)) trivial))))) rfl fun _ => ?_
 refine ak 1 3 (v := (((!(alV iv.i.op)) || ((iv.i.op != 6) && (decide ((0 : Int) < (iv.args.length : Int))))) || (decide ((6 : Int) < (iv.args.length : Int))))) rfl rfl rfl rfl (fun al => ?_) (fun al => ?_)
 ·
  try simp only [BS] at al
  have hbad := al
  refine wR 1 [] 4 4 [] [(4, (.bool false))] trivial rfl fun _ => ?_
  refine ag ⟨.inr rfl, _, rfl, false, _, fR, (HS.forget Y), rfl, (by exact vin_bad2 hbad)⟩
 ·
  try simp only [BS] at al
  have hal : alV iv.i.op = true := (al).1.1
  have h6 : iv.i.op = 6 ∨ iv.args.length = 0 := by omega
  have bk : iv.args.length ≤ 6 := by omega
  refine wR 2 [] 1 0 [6] [(6, (iI 0))] trivial rfl fun _ => ?_
  refine ap (fun (mm : Nat) f H' => ∃ (k : Nat) (F' : Fz), Fz.le F F' ∧ HS (Base.of H []) F' H' [bl, bz, b2] R ∧ aI f [(2, (.pointer (some ⟨b1, 0, none⟩))), (3, (.pointer (some ⟨b3, 0, none⟩))), (5, (.pointer (some ⟨b6, 0, none⟩))), (6, (iI (k : Int)))] ∧ mm = iv.args.length - k ∧ (k ≤ iv.args.length) ∧ (∀ j, j < k → aK c.regs (iv.args.getD j default) = true)) _ ⟨0, _, fR, Y, (agC rfl (agC rfl (agC rfl (agC rfl agN)))), rfl, (by first | assumption | omega | (simp at *; omega)), (by exact eg)⟩ ?_
  rintro dk dt ds ⟨k, dl, E, J, a8, rfl, hk, ha⟩ b5
  refine au _ a8 (fun _ => ?_)
  clear a8
  replace hT := hT.mono E
  replace V := V.mono E
  refine aj 2 rfl ?_
  refine wR 1 [(2, .o (.slice N iv.args.length T))] 33 37 [] [(37, (.bool (decide ((k : Int) < (iv.args.length : Int)))))] (vA (ql 25 5 (HS.hc J (i := 0) rfl) rfl rfl) trivial) rfl fun _ => ?_
  refine ak 4 5 (v := (decide ((k : Int) < (iv.args.length : Int)))) rfl rfl rfl rfl (fun ay => ?_) (fun ay => ?_)
  ·
   try simp only [BS] at ay
   obtain ⟨c7, ar⟩ := Sv.view (SR.sv V J)
   have dv := fI (ar k)
   refine wRD 1 [(1, .o (.slice N iv.args.length T)), (4, .o (iI (iv.args.getD k 0))), (8, .o (.slice N iv.args.length T)), (11, .o (iI (iv.args.getD k 0))), (13, .o (iI c.regs))] 40 55 [] [(55, (.bool ((decide ((iv.args.getD k 0) < 0)) || (decide (c.regs ≤ (iv.args.getD k 0))))))] (vA (ql 25 5 (hc0 (HS.hc J (i := 0) rfl)) rfl rfl) (vA (Sv.ix (j := (k : Int)) (SR.sv V J) (by omega) (by omega)) (vA (ql 3 0 (hc0 (vI (ar k) (by omega))) rfl rfl) (vA (fun (A : (decide ((iv.args.getD k 0) < 0)) = false) => (ql 25 5 (hc0 (HS.hc J (i := 0) rfl)) rfl rfl)) (vA (fun (A : (decide ((iv.args.getD k 0) < 0)) = false) => (Sv.ix (j := (k : Int)) (SR.sv V J) (by (try simp only [BS] at A); omega) (by (try simp only [BS] at A); omega))) (vA (fun (A : (decide ((iv.args.getD k 0) < 0)) = false) => (ql 3 0 (hc0 (vI (ar k) (by (try simp only [BS] at A); omega))) rfl rfl)) (vA (fun (A : (decide ((iv.args.getD k 0) < 0)) = false) => (ql 3 1 (hc0 (HS.hc J (i := 1) rfl)) rfl rfl)) trivial))))))) rfl rfl fun _ => ?_
   refine ak 1 2 (v := ((decide ((iv.args.getD k 0) < 0)) || (decide (c.regs ≤ (iv.args.getD k 0))))) rfl rfl rfl rfl (fun a0 => ?_) (fun a0 => ?_)
   ·
    try simp only [BS] at a0
    refine wR 1 [] 4 4 [] [(4, (.bool false))] trivial rfl fun _ => ?_
    refine ag ⟨.inr rfl, _, rfl, false, _, (E), (HS.forget J), rfl, (by exact vin_no (dI (k := k) (by omega) (cV.2 (show ¬ (0 ≤ iv.args.getD k 0 ∧ iv.args.getD k 0 < c.regs) by omega))))⟩
   ·
    try simp only [BS] at a0
    refine wR 1 [] 38 39 [6] [(6, (iI ((k : Int) + 1)))] (vA (vi (n := (k : Int) + 1) (by omega)) trivial) rfl fun _ => ?_
    refine b5 _ _ _ ?_ ⟨k + 1, _, (E), J, (agC rfl (agC rfl (agC rfl (agC rfl agN)))), rfl, (by first | assumption | omega | (simp at *; omega)), (by exact cR ha (aV.2 (show 0 ≤ iv.args.getD k 0 ∧ iv.args.getD k 0 < c.regs by omega)))⟩
    omega
  ·
   try simp only [BS] at ay
   have hall := fc ha (by omega)
   refine aa ?_
   refine wRo 2 0 [(1, .o (iI iv.i.op))] 56 57 [] [(57, (iI iv.i.op))] (vA (ql 3 0 (HS.hc J (i := 2) rfl) rfl rfl) trivial) rfl fun _ => ?_
   refine aA (ah rfl rfl rfl) rfl rfl (rinfo_c ex iv.i.op (HS.call J) (by omega) hT) ?_
   rintro _ ax ⟨d1, dn, U, z, rfl, b7, b9, rfl⟩
   replace z := HS.back J rfl z
   have z : HS _ _ _ [_, _, _] _ := z
   refine wRo 2 3 [] 59 59 [7] [(7, (iI (aE iv.i.op).form))] trivial rfl fun _ => ?_
   refine ae 2 rfl ?_
   refine wR 2 [] 60 61 [8] [(8, (.bool ((aE iv.i.op).form != 1)))] trivial rfl fun _ => ?_
   refine wR 3 [] 62 71 [9] [(9, (.bool ((((aE iv.i.op).form == 3) || ((aE iv.i.op).form == 4)) || ((aE iv.i.op).form == 7))))] trivial rfl fun _ => ?_
   refine wR 1 [(2, .o (iI iv.i.a)), (4, .o (iI c.regs)), (5, .o (.bool (dp ((aE iv.i.op).form != 1) iv.i.a c.regs))), (10, .o (iI iv.i.b)), (12, .o (iI c.regs)), (13, .o (.bool (dp ((((aE iv.i.op).form == 3) || ((aE iv.i.op).form == 4)) || ((aE iv.i.op).form == 7)) iv.i.b c.regs))), (20, .o (iI iv.i.c)), (22, .o (iI c.regs)), (23, .o (.bool (dp ((aE iv.i.op).form == 4) iv.i.c c.regs)))] 72 97 [] [(97, (.bool (((!(dp ((aE iv.i.op).form != 1) iv.i.a c.regs)) || (!(dp ((((aE iv.i.op).form == 3) || ((aE iv.i.op).form == 4)) || ((aE iv.i.op).form == 7)) iv.i.b c.regs))) || (!(dp ((aE iv.i.op).form == 4) iv.i.c c.regs)))))] (vA (ql 3 1 (HS.hc z (i := 2) rfl) rfl rfl) (vA (ql 3 1 (HS.hc z (i := 1) rfl) rfl rfl) (vA (eR ex ((aE iv.i.op).form != 1) iv.i.a c.regs ax (by omega) (by omega)) (vA (fun (A : (!(dp ((aE iv.i.op).form != 1) iv.i.a c.regs)) = false) => (ql 3 2 (HS.hc z (i := 2) rfl) rfl rfl)) (vA (fun (A : (!(dp ((aE iv.i.op).form != 1) iv.i.a c.regs)) = false) => (ql 3 1 (HS.hc z (i := 1) rfl) rfl rfl)) (vA (fun (A : (!(dp ((aE iv.i.op).form != 1) iv.i.a c.regs)) = false) => (eR ex ((((aE iv.i.op).form == 3) || ((aE iv.i.op).form == 4)) || ((aE iv.i.op).form == 7)) iv.i.b c.regs ax (by (try simp only [BS] at A); omega) (by (try simp only [BS] at A); omega))) (vA (fun (A : ((!(dp ((aE iv.i.op).form != 1) iv.i.a c.regs)) || (!(dp ((((aE iv.i.op).form == 3) || ((aE iv.i.op).form == 4)) || ((aE iv.i.op).form == 7)) iv.i.b c.regs))) = false) => (ql 3 3 (HS.hc z (i := 2) rfl) rfl rfl)) (vA (fun (A : ((!(dp ((aE iv.i.op).form != 1) iv.i.a c.regs)) || (!(dp ((((aE iv.i.op).form == 3) || ((aE iv.i.op).form == 4)) || ((aE iv.i.op).form == 7)) iv.i.b c.regs))) = false) => (ql 3 1 (HS.hc z (i := 1) rfl) rfl rfl)) (vA (fun (A : ((!(dp ((aE iv.i.op).form != 1) iv.i.a c.regs)) || (!(dp ((((aE iv.i.op).form == 3) || ((aE iv.i.op).form == 4)) || ((aE iv.i.op).form == 7)) iv.i.b c.regs))) = false) => (eR ex ((aE iv.i.op).form == 4) iv.i.c c.regs ax (by (try simp only [BS] at A); omega) (by (try simp only [BS] at A); omega))) trivial))))))))) rfl fun _ => ?_
   refine ak 1 3 (v := (((!(dp ((aE iv.i.op).form != 1) iv.i.a c.regs)) || (!(dp ((((aE iv.i.op).form == 3) || ((aE iv.i.op).form == 4)) || ((aE iv.i.op).form == 7)) iv.i.b c.regs))) || (!(dp ((aE iv.i.op).form == 4) iv.i.c c.regs)))) rfl rfl rfl rfl (fun Z => ?_) (fun Z => ?_)
   ·
    have a1 := Z
    try simp only [BS] at a1
    have cl := Z
    refine wR 1 [] 4 4 [] [(4, (.bool false))] trivial rfl fun _ => ?_
    refine ag ⟨.inr rfl, _, rfl, false, _, (fT (E) U), (HS.forget z), rfl, (by exact vin_rbad hal h6 bk hall cl)⟩
   ·
    have a1 := Z
    try simp only [BS] at a1
    have hgood := vin_rgood (params := c.params) hal h6 bk hall Z
    refine wR 3 [(1, .o (iI iv.i.op))] 98 99 [] [(99, (iI iv.i.op))] (vA (ql 3 0 (HS.hc z (i := 2) rfl) rfl rfl) trivial) rfl fun _ => ?_
    refine wR 1 [] 100 101 [] [(100, (.bool (iv.i.op == 13)))] trivial rfl fun _ => ?_
    refine ak 1 1 (v := (iv.i.op == 13)) rfl rfl rfl rfl (fun a2 => ?_) (fun a2 => ?_)
    ·
     try simp only [BS] at a2
     refine wR 1 [] 4 4 [] [(4, (.bool true))] trivial rfl fun _ => ?_
     refine ag ⟨.inr rfl, _, rfl, true, _, (fT (E) U), (HS.forget z), rfl, (by rw [hgood] <;> (first | exact (df hal hgood.2 (by omega) (by omega) (by omega) (by omega)).symm | (unfold gM; (repeat' split) <;> first | omega | rfl | (rw [Bool.eq_iff_iff] <;> simp))))⟩
    ·
     try simp only [BS] at a2
     refine wR 1 [] 102 103 [] [(102, (.bool (iv.i.op == 33)))] trivial rfl fun _ => ?_
     refine ak 1 1 (v := (iv.i.op == 33)) rfl rfl rfl rfl (fun a3 => ?_) (fun a3 => ?_)
     ·
      try simp only [BS] at a3
      refine wR 1 [(1, .o (iI iv.i.n)), (5, .o (iI iv.i.n))] 104 111 [4] [(4, (.bool ((decide ((-4194304 : Int) ≤ iv.i.n)) && (decide (iv.i.n < 4194304)))))] (vA (ql 2 4 (HS.hc z (i := 2) rfl) rfl rfl) (vA (fun (A : (decide ((-4194304 : Int) ≤ iv.i.n)) = true) => (ql 2 4 (HS.hc z (i := 2) rfl) rfl rfl)) trivial)) rfl fun _ => ?_
      refine ag ⟨.inr rfl, _, rfl, ((decide ((-4194304 : Int) ≤ iv.i.n)) && (decide (iv.i.n < 4194304))), _, (fT (E) U), (HS.forget z), rfl, (by rw [hgood] <;> (first | exact (df hal hgood.2 (by omega) (by omega) (by omega) (by omega)).symm | (unfold gM; (repeat' split) <;> first | omega | rfl | (rw [Bool.eq_iff_iff] <;> simp))))⟩
     ·
      try simp only [BS] at a3
      refine wR 1 [] 112 113 [] [(112, (.bool (iv.i.op == 6)))] trivial rfl fun _ => ?_
      refine ak 1 2 (v := (iv.i.op == 6)) rfl rfl rfl rfl (fun a4 => ?_) (fun a4 => ?_)
      ·
       try simp only [BS] at a4
       refine wR 1 [(1, .o (iI iv.i.n)), (5, .o (iI iv.i.n))] 114 121 [4] [(4, (.bool ((decide ((0 : Int) ≤ iv.i.n)) && (decide (iv.i.n < 8)))))] (vA (ql 2 4 (HS.hc z (i := 2) rfl) rfl rfl) (vA (fun (A : (decide ((0 : Int) ≤ iv.i.n)) = true) => (ql 2 4 (HS.hc z (i := 2) rfl) rfl rfl)) trivial)) rfl fun _ => ?_
       refine ag ⟨.inr rfl, _, rfl, ((decide ((0 : Int) ≤ iv.i.n)) && (decide (iv.i.n < 8))), _, (fT (E) U), (HS.forget z), rfl, (by rw [hgood] <;> (first | exact (df hal hgood.2 (by omega) (by omega) (by omega) (by omega)).symm | (unfold gM; (repeat' split) <;> first | omega | rfl | (rw [Bool.eq_iff_iff] <;> simp))))⟩
      ·
       try simp only [BS] at a4
       refine wR 1 [] 122 123 [] [(122, (.bool (iv.i.op == 34)))] trivial rfl fun _ => ?_
       refine ak 1 0 (v := (iv.i.op == 34)) rfl rfl rfl rfl (fun ad => ?_) (fun ad => ?_)
       ·
        have a5 := ad
        try simp only [BS] at a5
        refine bp 1 (v := (iv.i.op == 34)) rfl ad rfl rfl ?_
        refine wR 1 [(1, .o (iI iv.i.n)), (5, .o (iI iv.i.n))] 125 132 [4] [(4, (.bool ((decide ((0 : Int) ≤ iv.i.n)) && (decide (iv.i.n < 4)))))] (vA (ql 2 4 (HS.hc z (i := 2) rfl) rfl rfl) (vA (fun (A : (decide ((0 : Int) ≤ iv.i.n)) = true) => (ql 2 4 (HS.hc z (i := 2) rfl) rfl rfl)) trivial)) rfl fun _ => ?_
        refine ag ⟨.inr rfl, _, rfl, ((decide ((0 : Int) ≤ iv.i.n)) && (decide (iv.i.n < 4))), _, (fT (E) U), (HS.forget z), rfl, (by rw [hgood] <;> (first | exact (df hal hgood.2 (by omega) (by omega) (by omega) (by omega)).symm | (unfold gM; (repeat' split) <;> first | omega | rfl | (rw [Bool.eq_iff_iff] <;> simp))))⟩
       ·
        have a5 := ad
        try simp only [BS] at a5
        refine wR 1 [] 122 124 [] [(122, (.bool (iv.i.op == 35)))] trivial rfl fun _ => ?_
        refine ak 1 1 (v := (iv.i.op == 35)) rfl rfl rfl rfl (fun a6 => ?_) (fun a6 => ?_)
        ·
         try simp only [BS] at a6
         refine wR 1 [(1, .o (iI iv.i.n)), (5, .o (iI iv.i.n))] 125 132 [4] [(4, (.bool ((decide ((0 : Int) ≤ iv.i.n)) && (decide (iv.i.n < 4)))))] (vA (ql 2 4 (HS.hc z (i := 2) rfl) rfl rfl) (vA (fun (A : (decide ((0 : Int) ≤ iv.i.n)) = true) => (ql 2 4 (HS.hc z (i := 2) rfl) rfl rfl)) trivial)) rfl fun _ => ?_
         refine ag ⟨.inr rfl, _, rfl, ((decide ((0 : Int) ≤ iv.i.n)) && (decide (iv.i.n < 4))), _, (fT (E) U), (HS.forget z), rfl, (by rw [hgood] <;> (first | exact (df hal hgood.2 (by omega) (by omega) (by omega) (by omega)).symm | (unfold gM; (repeat' split) <;> first | omega | rfl | (rw [Bool.eq_iff_iff] <;> simp))))⟩
        ·
         try simp only [BS] at a6
         refine wR 1 [] 133 134 [] [(133, (.bool (iv.i.op == 38)))] trivial rfl fun _ => ?_
         refine ak 1 3 (v := (iv.i.op == 38)) rfl rfl rfl rfl (fun a7 => ?_) (fun a7 => ?_)
         ·
          try simp only [BS] at a7
          refine wR 1 [(1, .o (iI iv.i.n)), (5, .o (iI iv.i.n)), (7, .o (iI c.params))] 135 144 [4] [(4, (.bool ((decide ((0 : Int) ≤ iv.i.n)) && (decide (iv.i.n < c.params)))))] (vA (ql 2 4 (HS.hc z (i := 2) rfl) rfl rfl) (vA (fun (A : (decide ((0 : Int) ≤ iv.i.n)) = true) => (ql 2 4 (HS.hc z (i := 2) rfl) rfl rfl)) (vA (fun (A : (decide ((0 : Int) ≤ iv.i.n)) = true) => (ql 3 0 (HS.hc z (i := 1) rfl) rfl rfl)) trivial))) rfl fun _ => ?_
          refine ag ⟨.inr rfl, _, rfl, ((decide ((0 : Int) ≤ iv.i.n)) && (decide (iv.i.n < c.params))), _, (fT (E) U), (HS.forget z), rfl, (by rw [hgood] <;> (first | exact (df hal hgood.2 (by omega) (by omega) (by omega) (by omega)).symm | (unfold gM; (repeat' split) <;> first | omega | rfl | (rw [Bool.eq_iff_iff] <;> simp))))⟩
         ·
          try simp only [BS] at a7
          refine wR 1 [(1, .o (iI iv.i.n))] 145 147 [4] [(4, (.bool (iv.i.n == 0)))] (vA (ql 2 4 (HS.hc z (i := 2) rfl) rfl rfl) trivial) rfl fun _ => ?_
          refine ag ⟨.inr rfl, _, rfl, (iv.i.n == 0), _, (fT (E) U), (HS.forget z), rfl, (by rw [hgood] <;> (first | exact (df hal hgood.2 (by omega) (by omega) (by omega) (by omega)).symm | (unfold gM; (repeat' split) <;> first | omega | rfl | (rw [Bool.eq_iff_iff] <;> simp))))⟩
theorem rEnd_c (ex : FuncId) {N : Option Addr} {T : Nat} (b : BlkT) {E : Option Addr} {J : Nat} (c : VFnT) {F : Fz} {H : Heap} {R : List Fp} (hs : HS (.of H []) F H [] R) (ar : SR F (.slice N b.ins.length T) b.ins) (av : in64 b.fin) (aw : in64 b.reg) (ax : in64 b.tgt) (ay : in64 b.els) (a0 : in64 c.params) (a1 : in64 c.regs) (a2 : SR F (.slice E c.blocks.length J) c.blocks) (hT : TB 37 tabC F) : C Tryd.prog 1 (KT 60 ex 37 tabC) 70 [(.agg ⟨[(.slice N b.ins.length T), (iI b.fin), (iI b.reg), (iI b.tgt), (iI b.els)]⟩), (.agg ⟨[(iI c.params), (iI c.regs), (.slice E c.blocks.length J)]⟩)] H fun v H' => ∃ (r : Bool) (F' : Fz), Fz.le F F' ∧ HS (.of H []) F' H' [] R ∧ v = .bool r ∧ r = jE (c.blocks.length : Int) c.regs b := by
 refine aG Tryd.func70 rfl rfl ?_
 refine aj 1 rfl ?_
 refine aa ?_
 refine aF (bB hs rfl rfl) rfl rfl ?_
 rintro _ H2 _ ⟨b1, rfl, Z, _⟩
 have Z : HS _ _ _ [[(b1, .cells [(.slice N b.ins.length T), (iI b.fin), (iI b.reg), (iI b.tgt), (iI b.els)] none false)]] _ := Z
 refine aF (bB Z rfl rfl) rfl rfl ?_
 rintro _ H4 _ ⟨b3, rfl, z, _⟩
 have z : HS _ _ _ [_, [(b3, .cells [(iI c.params), (iI c.regs), (.slice E c.blocks.length J)] none false)]] _ := z
 refine wa (.bool false) rfl rfl rfl ?_
 refine ae 2 rfl ?_
 refine wR 2 [(1, .o (.slice E c.blocks.length J))] 9 11 [5] [(5, (iI (c.blocks.length : Int)))] (vA (ql 22 2 (HS.hc z (i := 1) rfl) rfl rfl) trivial) rfl fun _ => ?_
 refine wRD 3 [(1, .o (iI b.tgt)), (5, .o (iI b.tgt)), (10, .o (iI b.els)), (14, .o (iI b.els)), (19, .o (iI b.reg)), (23, .o (iI b.reg)), (25, .o (iI c.regs))] 12 39 [6, 7, 8] [(6, (.bool ((decide ((0 : Int) ≤ b.tgt)) && (decide (b.tgt < (c.blocks.length : Int)))))), (7, (.bool ((decide ((0 : Int) ≤ b.els)) && (decide (b.els < (c.blocks.length : Int)))))), (8, (.bool ((decide ((0 : Int) ≤ b.reg)) && (decide (b.reg < c.regs)))))] (vA (ql 3 3 (hc0 (HS.hc z (i := 0) rfl)) rfl rfl) (vA (fun (A : (decide ((0 : Int) ≤ b.tgt)) = true) => (ql 3 3 (hc0 (HS.hc z (i := 0) rfl)) rfl rfl)) (vA (ql 3 4 (hc0 (HS.hc z (i := 0) rfl)) rfl rfl) (vA (fun (A : (decide ((0 : Int) ≤ b.els)) = true) => (ql 3 4 (hc0 (HS.hc z (i := 0) rfl)) rfl rfl)) (vA (ql 3 2 (hc0 (HS.hc z (i := 0) rfl)) rfl rfl) (vA (fun (A : (decide ((0 : Int) ≤ b.reg)) = true) => (ql 3 2 (hc0 (HS.hc z (i := 0) rfl)) rfl rfl)) (vA (fun (A : (decide ((0 : Int) ≤ b.reg)) = true) => (ql 3 1 (hc0 (HS.hc z (i := 1) rfl)) rfl rfl)) trivial))))))) rfl rfl fun _ => ?_
 refine wR 3 [(1, .o (iI b.fin))] 40 41 [] [(41, (iI b.fin))] (vA (ql 3 1 (HS.hc z (i := 0) rfl) rfl rfl) trivial) rfl fun _ => ?_
 refine wR 1 [] 42 43 [] [(42, (.bool (b.fin == 1)))] trivial rfl fun _ => ?_
 refine ak 1 1 (v := (b.fin == 1)) rfl rfl rfl rfl (fun c9 => ?_) (fun c9 => ?_)
 ·
  try simp only [BS] at c9
  refine wR 1 [(3, .o (iI b.els)), (8, .o (iI b.reg))] 44 54 [4] [(4, (.bool ((((decide ((0 : Int) ≤ b.tgt)) && (decide (b.tgt < (c.blocks.length : Int)))) && (b.els == 0)) && (b.reg == 0))))] (vA (fun (A : ((decide ((0 : Int) ≤ b.tgt)) && (decide (b.tgt < (c.blocks.length : Int)))) = true) => (ql 3 4 (HS.hc z (i := 0) rfl) rfl rfl)) (vA (fun (A : (((decide ((0 : Int) ≤ b.tgt)) && (decide (b.tgt < (c.blocks.length : Int)))) && (b.els == 0)) = true) => (ql 3 2 (HS.hc z (i := 0) rfl) rfl rfl)) trivial)) rfl fun _ => ?_
  refine ag ⟨.inr rfl, _, rfl, ((((decide ((0 : Int) ≤ b.tgt)) && (decide (b.tgt < (c.blocks.length : Int)))) && (b.els == 0)) && (b.reg == 0)), _, fR, (HS.forget z), rfl, (by refine Bool.eq_iff_iff.2 (Iff.trans ?_ bL.symm); first | omega | (simp [aV] <;> omega))⟩
 ·
  try simp only [BS] at c9
  refine wR 1 [] 55 56 [] [(55, (.bool (b.fin == 2)))] trivial rfl fun _ => ?_
  refine ak 1 1 (v := (b.fin == 2)) rfl rfl rfl rfl (fun U => ?_) (fun U => ?_)
  ·
   try simp only [BS] at U
   refine wR 1 [] 57 63 [4] [(4, (.bool ((((decide ((0 : Int) ≤ b.tgt)) && (decide (b.tgt < (c.blocks.length : Int)))) && ((decide ((0 : Int) ≤ b.els)) && (decide (b.els < (c.blocks.length : Int))))) && ((decide ((0 : Int) ≤ b.reg)) && (decide (b.reg < c.regs))))))] trivial rfl fun _ => ?_
   refine ag ⟨.inr rfl, _, rfl, ((((decide ((0 : Int) ≤ b.tgt)) && (decide (b.tgt < (c.blocks.length : Int)))) && ((decide ((0 : Int) ≤ b.els)) && (decide (b.els < (c.blocks.length : Int))))) && ((decide ((0 : Int) ≤ b.reg)) && (decide (b.reg < c.regs)))), _, fR, (HS.forget z), rfl, (by refine Bool.eq_iff_iff.2 (Iff.trans ?_ bL.symm); first | omega | (simp [aV] <;> omega))⟩
  ·
   try simp only [BS] at U
   refine wR 1 [] 64 65 [] [(64, (.bool (b.fin == 3)))] trivial rfl fun _ => ?_
   refine ak 1 1 (v := (b.fin == 3)) rfl rfl rfl rfl (fun V => ?_) (fun V => ?_)
   ·
    try simp only [BS] at V
    refine wR 1 [(3, .o (iI b.tgt)), (8, .o (iI b.els))] 66 76 [4] [(4, (.bool ((((decide ((0 : Int) ≤ b.reg)) && (decide (b.reg < c.regs))) && (b.tgt == 0)) && (b.els == 0))))] (vA (fun (A : ((decide ((0 : Int) ≤ b.reg)) && (decide (b.reg < c.regs))) = true) => (ql 3 3 (HS.hc z (i := 0) rfl) rfl rfl)) (vA (fun (A : (((decide ((0 : Int) ≤ b.reg)) && (decide (b.reg < c.regs))) && (b.tgt == 0)) = true) => (ql 3 4 (HS.hc z (i := 0) rfl) rfl rfl)) trivial)) rfl fun _ => ?_
    refine ag ⟨.inr rfl, _, rfl, ((((decide ((0 : Int) ≤ b.reg)) && (decide (b.reg < c.regs))) && (b.tgt == 0)) && (b.els == 0)), _, fR, (HS.forget z), rfl, (by refine Bool.eq_iff_iff.2 (Iff.trans ?_ bL.symm); first | omega | (simp [aV] <;> omega))⟩
   ·
    try simp only [BS] at V
    refine wR 1 [] 77 78 [] [(77, (.bool (b.fin == 4)))] trivial rfl fun _ => ?_
    refine ak 1 3 (v := (b.fin == 4)) rfl rfl rfl rfl (fun Y => ?_) (fun Y => ?_)
    ·
     try simp only [BS] at Y
     refine wR 1 [(1, .o (iI b.tgt)), (5, .o (iI b.tgt)), (10, .o (iI b.els)), (15, .o (iI b.reg))] 79 96 [4] [(4, (.bool ((((decide ((1 : Int) ≤ b.tgt)) && (decide (b.tgt < 33554432))) && (b.els == 0)) && (b.reg == 0))))] (vA (ql 3 3 (HS.hc z (i := 0) rfl) rfl rfl) (vA (fun (A : (decide ((1 : Int) ≤ b.tgt)) = true) => (ql 3 3 (HS.hc z (i := 0) rfl) rfl rfl)) (vA (fun (A : ((decide ((1 : Int) ≤ b.tgt)) && (decide (b.tgt < 33554432))) = true) => (ql 3 4 (HS.hc z (i := 0) rfl) rfl rfl)) (vA (fun (A : (((decide ((1 : Int) ≤ b.tgt)) && (decide (b.tgt < 33554432))) && (b.els == 0)) = true) => (ql 3 2 (HS.hc z (i := 0) rfl) rfl rfl)) trivial)))) rfl fun _ => ?_
     refine ag ⟨.inr rfl, _, rfl, ((((decide ((1 : Int) ≤ b.tgt)) && (decide (b.tgt < 33554432))) && (b.els == 0)) && (b.reg == 0)), _, fR, (HS.forget z), rfl, (by refine Bool.eq_iff_iff.2 (Iff.trans ?_ bL.symm); first | omega | (simp [aV] <;> omega))⟩
    ·
     try simp only [BS] at Y
     refine wR 1 [] 4 4 [] [(4, (.bool false))] trivial rfl fun _ => ?_
     refine ag ⟨.inr rfl, _, rfl, false, _, fR, (HS.forget z), rfl, (by refine Bool.eq_iff_iff.2 (Iff.trans ?_ bL.symm); first | omega | (simp [aV] <;> omega))⟩
set_option maxHeartbeats 1000000 in
theorem valid_c (ex : FuncId) {E : Option Addr} {T : Nat} (c : VFnT) {F : Fz} {H : Heap} {R : List Fp} (hs : HS (.of H []) F H [] R) (dv : in64 c.params) (d1 : in64 c.regs) (Z : SR F (.slice E c.blocks.length T) c.blocks) (hT : TB 37 tabC F) (hv : ∀ j, (c.blocks.getD j default).ins.length ≤ 9223372036854775807) : C Tryd.prog 1 (KT 60 ex 37 tabC) 39 [(.agg ⟨[(iI c.params), (iI c.regs), (.slice E c.blocks.length T)]⟩)] H fun v H' => ∃ (r : Bool) (F' : Fz), Fz.le F F' ∧ HS (.of H []) F' H' [] R ∧ v = .bool r ∧ r = b8 c := by
 refine aG Tryd.func39 rfl rfl ?_
 refine aj 1 rfl ?_
 refine aa ?_
 refine aF (bB hs rfl rfl) rfl rfl ?_
 rintro _ H2 _ ⟨b1, rfl, V, _⟩
 let b7 : Fp := [(b1, .cells [(iI c.params), (iI c.regs), (.slice E c.blocks.length T)] none false)]
 have V : HS _ _ _ [b7] _ := V
 refine wa (.bool false) rfl rfl rfl ?_
 refine ae 3 rfl ?_
 refine wR 1 [(1, .o (iI c.params)), (5, .o (iI c.params)), (10, .o (iI c.regs)), (15, .o (iI c.regs)), (20, .o (.slice E c.blocks.length T)), (26, .o (.slice E c.blocks.length T))] 10 39 [] [(39, (.bool ((((((decide (c.params < 0)) || (decide ((6 : Int) < c.params))) || (decide (c.regs < 0))) || (decide ((3000 : Int) < c.regs))) || (decide ((c.blocks.length : Int) < 1))) || (decide ((1000 : Int) < (c.blocks.length : Int))))))] (vA (ql 3 0 (HS.hc V (i := 0) rfl) rfl rfl) (vA (fun (N : (decide (c.params < 0)) = false) => (ql 3 0 (HS.hc V (i := 0) rfl) rfl rfl)) (vA (fun (N : ((decide (c.params < 0)) || (decide ((6 : Int) < c.params))) = false) => (ql 3 1 (HS.hc V (i := 0) rfl) rfl rfl)) (vA (fun (N : (((decide (c.params < 0)) || (decide ((6 : Int) < c.params))) || (decide (c.regs < 0))) = false) => (ql 3 1 (HS.hc V (i := 0) rfl) rfl rfl)) (vA (fun (N : ((((decide (c.params < 0)) || (decide ((6 : Int) < c.params))) || (decide (c.regs < 0))) || (decide ((3000 : Int) < c.regs))) = false) => (ql 22 2 (HS.hc V (i := 0) rfl) rfl rfl)) (vA (fun (N : (((((decide (c.params < 0)) || (decide ((6 : Int) < c.params))) || (decide (c.regs < 0))) || (decide ((3000 : Int) < c.regs))) || (decide ((c.blocks.length : Int) < 1))) = false) => (ql 22 2 (HS.hc V (i := 0) rfl) rfl rfl)) trivial)))))) rfl fun _ => ?_
 refine ak 1 2 (v := ((((((decide (c.params < 0)) || (decide ((6 : Int) < c.params))) || (decide (c.regs < 0))) || (decide ((3000 : Int) < c.regs))) || (decide ((c.blocks.length : Int) < 1))) || (decide ((1000 : Int) < (c.blocks.length : Int))))) rfl rfl rfl rfl (fun c4 => ?_) (fun c4 => ?_)
 ·
  try simp only [BS] at c4
  refine wR 1 [] 2 2 [] [(2, (.bool false))] trivial rfl fun _ => ?_
  refine ag ⟨.inr rfl, _, rfl, false, _, fR, (HS.forget V), rfl, (by exact val_lim (by omega))⟩
 ·
  try simp only [BS] at c4
  have hlim : 0 ≤ c.params ∧ c.params ≤ 6 ∧ 0 ≤ c.regs ∧ c.regs ≤ 3000 ∧ 1 ≤ c.blocks.length ∧ c.blocks.length ≤ 1000 := by omega
  refine wR 2 [] 40 40 [3] [(3, (.func (.func 67) #[] #[(.pointer (some ⟨b1, 0, none⟩))]))] trivial rfl fun _ => ?_
  refine wR 3 [] 41 41 [4] [(4, (.func (.func 68) #[] #[(.pointer (some ⟨b1, 0, none⟩))]))] trivial rfl fun _ => ?_
  refine wR 2 [(1, .o (.slice E c.blocks.length T))] 42 45 [] [(43, (.slice E c.blocks.length T)), (44, (iI (c.blocks.length : Int))), (45, (iI 0))] (vA (ql 22 2 (HS.hc V (i := 0) rfl) rfl rfl) trivial) rfl fun _ => ?_
  refine ap (fun (mm : Nat) f H' => ∃ (k : Nat) (F' : Fz), Fz.le F F' ∧ HS (Base.of H []) F' H' [b7] R ∧ aI f [(1, (.pointer (some ⟨b1, 0, none⟩))), (3, (.func (.func 67) #[] #[(.pointer (some ⟨b1, 0, none⟩))])), (4, (.func (.func 68) #[] #[(.pointer (some ⟨b1, 0, none⟩))])), (43, (.slice E c.blocks.length T)), (44, (iI (c.blocks.length : Int))), (45, (iI (k : Int)))] ∧ mm = c.blocks.length - k ∧ (k ≤ c.blocks.length) ∧ (∀ j, j < k → kY c.params c.regs (c.blocks.length : Int) (c.blocks.getD j default) = true)) _ ⟨0, _, fR, V, (agC rfl (agC rfl (agC rfl (agC rfl (agC rfl (agC rfl agN)))))), rfl, (by first | assumption | omega | (simp at *; omega)), (by exact eg)⟩ ?_
  rintro e1 f9 H9 ⟨k, F9, U, a6, ci, rfl, hk, ha⟩ a7
  refine au _ ci (fun _ => ?_)
  clear ci
  replace hT := hT.mono U
  replace Z := Z.mono U
  have hvk := hv k
  refine aj 1 rfl ?_
  refine wR 2 [] 46 46 [] [(46, (.bool (decide ((k : Int) < (c.blocks.length : Int)))))] trivial rfl fun _ => ?_
  refine ak 4 5 (v := (decide ((k : Int) < (c.blocks.length : Int)))) rfl rfl rfl rfl (fun bb => ?_) (fun bb => ?_)
  ·
   try simp only [BS] at bb
   refine aa ?_
   obtain ⟨J, b5⟩ := Sv.view (SR.sv Z a6)
   obtain ⟨c5, c6, c7, c8, an⟩ := BlkT.fx (b5 k)
   let b9 : Value := (.agg ⟨[(.slice (cA (J k) 0) (c.blocks.getD k default).ins.length (cK (J k) 0)), (iI (c.blocks.getD k default).fin), (iI (c.blocks.getD k default).reg), (iI (c.blocks.getD k default).tgt), (iI (c.blocks.getD k default).els)]⟩)
   refine wRo 2 0 [(1, .o b9)] 47 48 [] [(48, b9)] (vA (Sv.ix (j := (k : Int)) (SR.sv Z a6) (by omega) (by omega)) (vA (qn 42 0 5 (BlkT.vw (b5 k) (by omega)) rfl rfl rfl rfl) trivial)) rfl fun _ => ?_
   refine aF (bE a6 rfl) rfl rfl ?_
   rintro _ ea _ ⟨a9, rfl, a3, _⟩
   have a3 : HS _ _ _ [_, [(a9, .cells [(.slice none 0 0), (iI 0), (iI 0), (iI 0), (iI 0)] none false)]] _ := a3
   refine aM (aD (q := 1) a3 rfl rfl rfl rfl rfl rfl rfl rfl rfl) rfl ?_
   rintro _ em _ ⟨aw, _⟩
   let cl : Fp := [(a9, .cells [(.slice (cA (J k) 0) (c.blocks.getD k default).ins.length (cK (J k) 0)), (iI (c.blocks.getD k default).fin), (iI (c.blocks.getD k default).reg), (iI (c.blocks.getD k default).tgt), (iI (c.blocks.getD k default).els)] none false)]
   have aw : HS _ _ _ [_, cl] _ := aw
   refine ae 3 rfl ?_
   refine wR 2 [(1, .o (.slice (cA (J k) 0) (c.blocks.getD k default).ins.length (cK (J k) 0)))] 49 52 [] [(50, (.slice (cA (J k) 0) (c.blocks.getD k default).ins.length (cK (J k) 0))), (51, (iI ((c.blocks.getD k default).ins.length : Int))), (52, (iI 0))] (vA (ql 40 0 (HS.hc aw (i := 1) rfl) rfl rfl) trivial) rfl fun _ => ?_
   refine ap (fun (mm : Nat) f H' => ∃ (i : Nat) (F' : Fz), Fz.le F9 F' ∧ HS (Base.of H []) F' H' [b7, cl] R ∧ aI f [(1, (.pointer (some ⟨b1, 0, none⟩))), (3, (.func (.func 67) #[] #[(.pointer (some ⟨b1, 0, none⟩))])), (4, (.func (.func 68) #[] #[(.pointer (some ⟨b1, 0, none⟩))])), (6, (.pointer (some ⟨a9, 0, none⟩))), (43, (.slice E c.blocks.length T)), (44, (iI (c.blocks.length : Int))), (45, (iI (k : Int))), (46, (.bool (decide ((k : Int) < (c.blocks.length : Int))))), (48, b9), (50, (.slice (cA (J k) 0) (c.blocks.getD k default).ins.length (cK (J k) 0))), (51, (iI ((c.blocks.getD k default).ins.length : Int))), (52, (iI (i : Int)))] ∧ mm = (c.blocks.getD k default).ins.length - i ∧ (i ≤ (c.blocks.getD k default).ins.length) ∧ (∀ j, j < i → eu c.params c.regs ((c.blocks.getD k default).ins.getD j default) = true)) _ ⟨0, _, fR, aw, (agC rfl (agC rfl (agC rfl (agC rfl (agC rfl (agC rfl (agC rfl (agC rfl (agC rfl (agC rfl (agC rfl (agC rfl agN)))))))))))), rfl, (by first | assumption | omega | (simp at *; omega)), (by exact eg)⟩ ?_
   rintro d2 e0 ax ⟨i, d3, A, z, b4, rfl, hi, hb⟩ c3
   refine au _ b4 (fun _ => ?_)
   clear b4
   replace hT := hT.mono A
   replace Z := Z.mono A
   replace an := an.mono A
   refine aj 1 rfl ?_
   refine wR 2 [] 53 53 [] [(53, (.bool (decide ((i : Int) < ((c.blocks.getD k default).ins.length : Int)))))] trivial rfl fun _ => ?_
   refine ak 4 5 (v := (decide ((i : Int) < ((c.blocks.getD k default).ins.length : Int)))) rfl rfl rfl rfl (fun bk => ?_) (fun bk => ?_)
   ·
    try simp only [BS] at bk
    refine aa ?_
    obtain ⟨av, b6⟩ := Sv.view (SR.sv an z)
    obtain ⟨c9, dd, dk, dl, dn, cc⟩ := VInT.fx (b6 i)
    let a8 : Value := (.agg ⟨[(iI ((c.blocks.getD k default).ins.getD i default).i.op), (iI ((c.blocks.getD k default).ins.getD i default).i.a), (iI ((c.blocks.getD k default).ins.getD i default).i.b), (iI ((c.blocks.getD k default).ins.getD i default).i.c), (iI ((c.blocks.getD k default).ins.getD i default).i.n), (.slice (cA (av i) 5) ((c.blocks.getD k default).ins.getD i default).args.length (cK (av i) 5))]⟩)
    refine wRo 2 0 [(1, .o a8)] 54 55 [] [(55, a8)] (vA (Sv.ix (j := (i : Int)) (SR.sv an z) (by omega) (by omega)) (vA (qn 47 0 6 (VInT.vw (b6 i) (by omega)) rfl rfl rfl rfl) trivial)) rfl fun _ => ?_
    refine aF (bE z rfl) rfl rfl ?_
    rintro _ es _ ⟨ch, rfl, a4, _⟩
    have a4 : HS _ _ _ [_, _, [(ch, .cells [(iI 0), (iI 0), (iI 0), (iI 0), (iI 0), (.slice none 0 0)] none false)]] _ := a4
    refine aM (aD (q := 2) a4 rfl rfl rfl rfl rfl rfl rfl rfl rfl) rfl ?_
    rintro _ et _ ⟨ad, _⟩
    have ad : HS _ _ _ [_, _, [(ch, .cells [(iI ((c.blocks.getD k default).ins.getD i default).i.op), (iI ((c.blocks.getD k default).ins.getD i default).i.a), (iI ((c.blocks.getD k default).ins.getD i default).i.b), (iI ((c.blocks.getD k default).ins.getD i default).i.c), (iI ((c.blocks.getD k default).ins.getD i default).i.n), (.slice (cA (av i) 5) ((c.blocks.getD k default).ins.getD i default).args.length (cK (av i) 5))] none false)]] _ := ad
    refine ae 2 rfl ?_
    refine aa ?_
    let co : Value := (.agg ⟨[(iI c.params), (iI c.regs), (.slice E c.blocks.length T)]⟩)
    refine wRo 2 0 [(0, .o co), (1, .o a8)] 56 57 [] [(56, co), (57, a8)] (vA (qn 24 0 3 (HS.hc ad (i := 0) rfl) rfl rfl rfl rfl) (vA (qn 47 0 6 (HS.hc ad (i := 2) rfl) rfl rfl rfl rfl) trivial)) rfl fun _ => ?_
    refine aA (ah rfl rfl rfl) rfl rfl (vinstr_c ex (⟨c.params, c.regs, c.blocks⟩ : VFnT) (⟨(⟨((c.blocks.getD k default).ins.getD i default).i.op, ((c.blocks.getD k default).ins.getD i default).i.a, ((c.blocks.getD k default).ins.getD i default).i.b, ((c.blocks.getD k default).ins.getD i default).i.c, ((c.blocks.getD k default).ins.getD i default).i.n⟩ : InsT), ((c.blocks.getD k default).ins.getD i default).args⟩ : VInT) (HS.call ad) (by omega) (by omega) Z (by omega) (by omega) (by omega) (by omega) (by omega) cc hT) ?_
    rintro _ ez ⟨e2, d4, b3, al, rfl, rfl⟩
    replace al := HS.back ad rfl al
    have al : HS _ _ _ [_, _, _] _ := al
    refine wRo 1 3 [] 59 59 [] [(59, (.bool (!(eu (⟨c.params, c.regs, c.blocks⟩ : VFnT).params (⟨c.params, c.regs, c.blocks⟩ : VFnT).regs (⟨(⟨((c.blocks.getD k default).ins.getD i default).i.op, ((c.blocks.getD k default).ins.getD i default).i.a, ((c.blocks.getD k default).ins.getD i default).i.b, ((c.blocks.getD k default).ins.getD i default).i.c, ((c.blocks.getD k default).ins.getD i default).i.n⟩ : InsT), ((c.blocks.getD k default).ins.getD i default).args⟩ : VInT)))))] trivial rfl fun _ => ?_
    refine ae 1 rfl ?_
    refine ak 1 2 (v := (!(eu (⟨c.params, c.regs, c.blocks⟩ : VFnT).params (⟨c.params, c.regs, c.blocks⟩ : VFnT).regs (⟨(⟨((c.blocks.getD k default).ins.getD i default).i.op, ((c.blocks.getD k default).ins.getD i default).i.a, ((c.blocks.getD k default).ins.getD i default).i.b, ((c.blocks.getD k default).ins.getD i default).i.c, ((c.blocks.getD k default).ins.getD i default).i.n⟩ : InsT), ((c.blocks.getD k default).ins.getD i default).args⟩ : VInT)))) rfl rfl rfl rfl (fun a5 => ?_) (fun a5 => ?_)
    ·
     try simp only [BS] at a5
     have h3 := a5
     refine wR 1 [] 2 2 [] [(2, (.bool false))] trivial rfl fun _ => ?_
     refine ag ⟨.inr rfl, _, rfl, false, _, (fT (fT (U) A) b3), (HS.forget al), rfl, (by exact gU (dI (by omega) (blk_no (dI (by omega) h3))))⟩
    ·
     try simp only [BS] at a5
     refine wR 1 [] 52 52 [60] [(52, (iI ((i : Int) + 1)))] (vA (vi (n := (i : Int) + 1) (by omega)) trivial) rfl fun _ => ?_
     refine c3 _ _ _ ?_ ⟨i + 1, _, (fT (A) b3), (HS.sub al (List.sublist_append_left _ _)), (agC rfl (agC rfl (agC rfl (agC rfl (agC rfl (agC rfl (agC rfl (agC rfl (agC rfl (agC rfl (agC rfl (agC rfl agN)))))))))))), rfl, (by first | assumption | omega | (simp at *; omega)), (by exact cR hb (by assumption))⟩
     omega
   ·
    try simp only [BS] at bk
    have hal := fc hb (by omega)
    refine wR 3 [] 1 0 [9] [(9, (.bool false))] trivial rfl fun _ => ?_
    refine wR 3 [(1, .o (iI (c.blocks.getD k default).fin))] 61 62 [] [(62, (iI (c.blocks.getD k default).fin))] (vA (ql 3 1 (HS.hc z (i := 1) rfl) rfl rfl) trivial) rfl fun _ => ?_
    refine wR 1 [] 63 64 [] [(63, (.bool ((c.blocks.getD k default).fin == 1)))] trivial rfl fun _ => ?_
    refine ak 0 1 (v := ((c.blocks.getD k default).fin == 1)) rfl rfl rfl rfl (fun bl => ?_) (fun bl => ?_)
    ·
     try simp only [BS] at bl
     refine wR 3 [(2, .o (iI (c.blocks.getD k default).tgt)), (3, .o (.bool (aK ((⟨c.params, c.regs, c.blocks⟩ : VFnT).blocks.length : Int) (c.blocks.getD k default).tgt))), (6, .o (iI (c.blocks.getD k default).reg)), (11, .o (iI (c.blocks.getD k default).els))] 65 78 [9] [(9, (.bool ((aK ((⟨c.params, c.regs, c.blocks⟩ : VFnT).blocks.length : Int) (c.blocks.getD k default).tgt && ((c.blocks.getD k default).reg == 0)) && ((c.blocks.getD k default).els == 0))))] (vA (ql 3 3 (HS.hc z (i := 1) rfl) rfl rfl) (vA (kX ex (c.blocks.getD k default).tgt (⟨c.params, c.regs, c.blocks⟩ : VFnT) ax (by omega) (HS.hc z (i := 0) rfl) (by omega) (by omega)) (vA (fun (N : (aK ((⟨c.params, c.regs, c.blocks⟩ : VFnT).blocks.length : Int) (c.blocks.getD k default).tgt) = true) => (ql 3 2 (HS.hc z (i := 1) rfl) rfl rfl)) (vA (fun (N : (aK ((⟨c.params, c.regs, c.blocks⟩ : VFnT).blocks.length : Int) (c.blocks.getD k default).tgt && ((c.blocks.getD k default).reg == 0)) = true) => (ql 3 4 (HS.hc z (i := 1) rfl) rfl rfl)) trivial)))) rfl fun _ => ?_
     refine wR 1 [] 133 134 [] [(134, (.bool (!((aK ((⟨c.params, c.regs, c.blocks⟩ : VFnT).blocks.length : Int) (c.blocks.getD k default).tgt && ((c.blocks.getD k default).reg == 0)) && ((c.blocks.getD k default).els == 0)))))] trivial rfl fun _ => ?_
     refine ak 1 2 (v := (!((aK ((⟨c.params, c.regs, c.blocks⟩ : VFnT).blocks.length : Int) (c.blocks.getD k default).tgt && ((c.blocks.getD k default).reg == 0)) && ((c.blocks.getD k default).els == 0)))) rfl rfl rfl rfl (fun ay => ?_) (fun ay => ?_)
     ·
      try simp only [BS] at ay
      have Y := ay
      try simp only [cV, aV] at Y
      refine wR 1 [] 2 2 [] [(2, (.bool false))] trivial rfl fun _ => ?_
      refine ag ⟨.inr rfl, _, rfl, false, _, (fT (U) A), (HS.forget z), rfl, (by exact gU (dI (k := k) (by omega) (gT (Bool.eq_false_iff.2 fun hv => by rw [bL] at hv; omega))))⟩
     ·
      try simp only [BS] at ay
      have Y := ay
      try simp only [cV, aV] at Y
      refine wR 1 [] 45 45 [135] [(45, (iI ((k : Int) + 1)))] (vA (vi (n := (k : Int) + 1) (by omega)) trivial) rfl fun _ => ?_
      refine a7 _ _ _ ?_ ⟨k + 1, _, (fT (U) A), (HS.sub z (List.sublist_append_left _ _)), (agC rfl (agC rfl (agC rfl (agC rfl (agC rfl (agC rfl agN)))))), rfl, (by first | assumption | omega | (simp at *; omega)), (by exact cR ha (gS hal (by first | assumption | (rw [bL]; omega))))⟩
      omega
    ·
     try simp only [BS] at bl
     refine wR 1 [] 79 80 [] [(79, (.bool ((c.blocks.getD k default).fin == 2)))] trivial rfl fun _ => ?_
     refine ak 0 1 (v := ((c.blocks.getD k default).fin == 2)) rfl rfl rfl rfl (fun bz => ?_) (fun bz => ?_)
     ·
      try simp only [BS] at bz
      refine wR 3 [(2, .o (iI (c.blocks.getD k default).tgt)), (3, .o (.bool (aK ((⟨c.params, c.regs, c.blocks⟩ : VFnT).blocks.length : Int) (c.blocks.getD k default).tgt))), (7, .o (iI (c.blocks.getD k default).els)), (8, .o (.bool (aK ((⟨c.params, c.regs, c.blocks⟩ : VFnT).blocks.length : Int) (c.blocks.getD k default).els))), (13, .o (iI (c.blocks.getD k default).reg)), (14, .o (.bool (aK (⟨c.params, c.regs, c.blocks⟩ : VFnT).regs (c.blocks.getD k default).reg)))] 81 96 [9] [(9, (.bool ((aK ((⟨c.params, c.regs, c.blocks⟩ : VFnT).blocks.length : Int) (c.blocks.getD k default).tgt && aK ((⟨c.params, c.regs, c.blocks⟩ : VFnT).blocks.length : Int) (c.blocks.getD k default).els) && aK (⟨c.params, c.regs, c.blocks⟩ : VFnT).regs (c.blocks.getD k default).reg)))] (vA (ql 3 3 (HS.hc z (i := 1) rfl) rfl rfl) (vA (kX ex (c.blocks.getD k default).tgt (⟨c.params, c.regs, c.blocks⟩ : VFnT) ax (by omega) (HS.hc z (i := 0) rfl) (by omega) (by omega)) (vA (fun (N : (aK ((⟨c.params, c.regs, c.blocks⟩ : VFnT).blocks.length : Int) (c.blocks.getD k default).tgt) = true) => (ql 3 4 (HS.hc z (i := 1) rfl) rfl rfl)) (vA (fun (N : (aK ((⟨c.params, c.regs, c.blocks⟩ : VFnT).blocks.length : Int) (c.blocks.getD k default).tgt) = true) => (kX ex (c.blocks.getD k default).els (⟨c.params, c.regs, c.blocks⟩ : VFnT) ax (by (try simp only [BS] at N); omega) (HS.hc z (i := 0) rfl) (by (try simp only [BS] at N); omega) (by (try simp only [BS] at N); omega))) (vA (fun (N : (aK ((⟨c.params, c.regs, c.blocks⟩ : VFnT).blocks.length : Int) (c.blocks.getD k default).tgt && aK ((⟨c.params, c.regs, c.blocks⟩ : VFnT).blocks.length : Int) (c.blocks.getD k default).els) = true) => (ql 3 2 (HS.hc z (i := 1) rfl) rfl rfl)) (vA (fun (N : (aK ((⟨c.params, c.regs, c.blocks⟩ : VFnT).blocks.length : Int) (c.blocks.getD k default).tgt && aK ((⟨c.params, c.regs, c.blocks⟩ : VFnT).blocks.length : Int) (c.blocks.getD k default).els) = true) => (cReg_c_q ex (c.blocks.getD k default).reg (⟨c.params, c.regs, c.blocks⟩ : VFnT) ax (by (try simp only [BS] at N); omega) (HS.hc z (i := 0) rfl) (by (try simp only [BS] at N); omega) (by (try simp only [BS] at N); omega))) trivial)))))) rfl fun _ => ?_
      refine wR 1 [] 133 134 [] [(134, (.bool (!((aK ((⟨c.params, c.regs, c.blocks⟩ : VFnT).blocks.length : Int) (c.blocks.getD k default).tgt && aK ((⟨c.params, c.regs, c.blocks⟩ : VFnT).blocks.length : Int) (c.blocks.getD k default).els) && aK (⟨c.params, c.regs, c.blocks⟩ : VFnT).regs (c.blocks.getD k default).reg))))] trivial rfl fun _ => ?_
      refine ak 1 2 (v := (!((aK ((⟨c.params, c.regs, c.blocks⟩ : VFnT).blocks.length : Int) (c.blocks.getD k default).tgt && aK ((⟨c.params, c.regs, c.blocks⟩ : VFnT).blocks.length : Int) (c.blocks.getD k default).els) && aK (⟨c.params, c.regs, c.blocks⟩ : VFnT).regs (c.blocks.getD k default).reg))) rfl rfl rfl rfl (fun a0 => ?_) (fun a0 => ?_)
      ·
       try simp only [BS] at a0
       have Y := a0
       try simp only [cV, aV] at Y
       refine wR 1 [] 2 2 [] [(2, (.bool false))] trivial rfl fun _ => ?_
       refine ag ⟨.inr rfl, _, rfl, false, _, (fT (U) A), (HS.forget z), rfl, (by exact gU (dI (k := k) (by omega) (gT (Bool.eq_false_iff.2 fun hv => by rw [bL] at hv; omega))))⟩
      ·
       try simp only [BS] at a0
       have Y := a0
       try simp only [cV, aV] at Y
       refine wR 1 [] 45 45 [135] [(45, (iI ((k : Int) + 1)))] (vA (vi (n := (k : Int) + 1) (by omega)) trivial) rfl fun _ => ?_
       refine a7 _ _ _ ?_ ⟨k + 1, _, (fT (U) A), (HS.sub z (List.sublist_append_left _ _)), (agC rfl (agC rfl (agC rfl (agC rfl (agC rfl (agC rfl agN)))))), rfl, (by first | assumption | omega | (simp at *; omega)), (by exact cR ha (gS hal (by first | assumption | (rw [bL]; omega))))⟩
       omega
     ·
      try simp only [BS] at bz
      refine wR 1 [] 97 98 [] [(97, (.bool ((c.blocks.getD k default).fin == 3)))] trivial rfl fun _ => ?_
      refine ak 0 1 (v := ((c.blocks.getD k default).fin == 3)) rfl rfl rfl rfl (fun b0 => ?_) (fun b0 => ?_)
      ·
       try simp only [BS] at b0
       refine wR 3 [(2, .o (iI (c.blocks.getD k default).reg)), (3, .o (.bool (aK (⟨c.params, c.regs, c.blocks⟩ : VFnT).regs (c.blocks.getD k default).reg))), (6, .o (iI (c.blocks.getD k default).tgt)), (11, .o (iI (c.blocks.getD k default).els))] 99 112 [9] [(9, (.bool ((aK (⟨c.params, c.regs, c.blocks⟩ : VFnT).regs (c.blocks.getD k default).reg && ((c.blocks.getD k default).tgt == 0)) && ((c.blocks.getD k default).els == 0))))] (vA (ql 3 2 (HS.hc z (i := 1) rfl) rfl rfl) (vA (cReg_c_q ex (c.blocks.getD k default).reg (⟨c.params, c.regs, c.blocks⟩ : VFnT) ax (by omega) (HS.hc z (i := 0) rfl) (by omega) (by omega)) (vA (fun (N : (aK (⟨c.params, c.regs, c.blocks⟩ : VFnT).regs (c.blocks.getD k default).reg) = true) => (ql 3 3 (HS.hc z (i := 1) rfl) rfl rfl)) (vA (fun (N : (aK (⟨c.params, c.regs, c.blocks⟩ : VFnT).regs (c.blocks.getD k default).reg && ((c.blocks.getD k default).tgt == 0)) = true) => (ql 3 4 (HS.hc z (i := 1) rfl) rfl rfl)) trivial)))) rfl fun _ => ?_
       refine wR 1 [] 133 134 [] [(134, (.bool (!((aK (⟨c.params, c.regs, c.blocks⟩ : VFnT).regs (c.blocks.getD k default).reg && ((c.blocks.getD k default).tgt == 0)) && ((c.blocks.getD k default).els == 0)))))] trivial rfl fun _ => ?_
       refine ak 1 2 (v := (!((aK (⟨c.params, c.regs, c.blocks⟩ : VFnT).regs (c.blocks.getD k default).reg && ((c.blocks.getD k default).tgt == 0)) && ((c.blocks.getD k default).els == 0)))) rfl rfl rfl rfl (fun a1 => ?_) (fun a1 => ?_)
       ·
        try simp only [BS] at a1
        have Y := a1
        try simp only [cV, aV] at Y
        refine wR 1 [] 2 2 [] [(2, (.bool false))] trivial rfl fun _ => ?_
        refine ag ⟨.inr rfl, _, rfl, false, _, (fT (U) A), (HS.forget z), rfl, (by exact gU (dI (k := k) (by omega) (gT (Bool.eq_false_iff.2 fun hv => by rw [bL] at hv; omega))))⟩
       ·
        try simp only [BS] at a1
        have Y := a1
        try simp only [cV, aV] at Y
        refine wR 1 [] 45 45 [135] [(45, (iI ((k : Int) + 1)))] (vA (vi (n := (k : Int) + 1) (by omega)) trivial) rfl fun _ => ?_
        refine a7 _ _ _ ?_ ⟨k + 1, _, (fT (U) A), (HS.sub z (List.sublist_append_left _ _)), (agC rfl (agC rfl (agC rfl (agC rfl (agC rfl (agC rfl agN)))))), rfl, (by first | assumption | omega | (simp at *; omega)), (by exact cR ha (gS hal (by first | assumption | (rw [bL]; omega))))⟩
        omega
      ·
       try simp only [BS] at b0
       refine wR 1 [] 113 114 [] [(113, (.bool ((c.blocks.getD k default).fin == 4)))] trivial rfl fun _ => ?_
       refine ak 0 3 (v := ((c.blocks.getD k default).fin == 4)) rfl rfl rfl rfl (fun b2 => ?_) (fun b2 => ?_)
       ·
        try simp only [BS] at b2
        refine wR 3 [(1, .o (iI (c.blocks.getD k default).tgt)), (5, .o (iI (c.blocks.getD k default).tgt)), (10, .o (iI (c.blocks.getD k default).reg)), (15, .o (iI (c.blocks.getD k default).els))] 115 132 [9] [(9, (.bool ((((decide ((1 : Int) ≤ (c.blocks.getD k default).tgt)) && (decide ((c.blocks.getD k default).tgt < 33554432))) && ((c.blocks.getD k default).reg == 0)) && ((c.blocks.getD k default).els == 0))))] (vA (ql 3 3 (HS.hc z (i := 1) rfl) rfl rfl) (vA (fun (N : (decide ((1 : Int) ≤ (c.blocks.getD k default).tgt)) = true) => (ql 3 3 (HS.hc z (i := 1) rfl) rfl rfl)) (vA (fun (N : ((decide ((1 : Int) ≤ (c.blocks.getD k default).tgt)) && (decide ((c.blocks.getD k default).tgt < 33554432))) = true) => (ql 3 2 (HS.hc z (i := 1) rfl) rfl rfl)) (vA (fun (N : (((decide ((1 : Int) ≤ (c.blocks.getD k default).tgt)) && (decide ((c.blocks.getD k default).tgt < 33554432))) && ((c.blocks.getD k default).reg == 0)) = true) => (ql 3 4 (HS.hc z (i := 1) rfl) rfl rfl)) trivial)))) rfl fun _ => ?_
        refine wR 1 [] 133 134 [] [(134, (.bool (!((((decide ((1 : Int) ≤ (c.blocks.getD k default).tgt)) && (decide ((c.blocks.getD k default).tgt < 33554432))) && ((c.blocks.getD k default).reg == 0)) && ((c.blocks.getD k default).els == 0)))))] trivial rfl fun _ => ?_
        refine ak 1 2 (v := (!((((decide ((1 : Int) ≤ (c.blocks.getD k default).tgt)) && (decide ((c.blocks.getD k default).tgt < 33554432))) && ((c.blocks.getD k default).reg == 0)) && ((c.blocks.getD k default).els == 0)))) rfl rfl rfl rfl (fun a2 => ?_) (fun a2 => ?_)
        ·
         try simp only [BS] at a2
         have Y := a2
         try simp only [cV, aV] at Y
         refine wR 1 [] 2 2 [] [(2, (.bool false))] trivial rfl fun _ => ?_
         refine ag ⟨.inr rfl, _, rfl, false, _, (fT (U) A), (HS.forget z), rfl, (by exact gU (dI (k := k) (by omega) (gT (Bool.eq_false_iff.2 fun hv => by rw [bL] at hv; omega))))⟩
        ·
         try simp only [BS] at a2
         have Y := a2
         try simp only [cV, aV] at Y
         refine wR 1 [] 45 45 [135] [(45, (iI ((k : Int) + 1)))] (vA (vi (n := (k : Int) + 1) (by omega)) trivial) rfl fun _ => ?_
         refine a7 _ _ _ ?_ ⟨k + 1, _, (fT (U) A), (HS.sub z (List.sublist_append_left _ _)), (agC rfl (agC rfl (agC rfl (agC rfl (agC rfl (agC rfl agN)))))), rfl, (by first | assumption | omega | (simp at *; omega)), (by exact cR ha (gS hal (by first | assumption | (rw [bL]; omega))))⟩
         omega
       ·
        try simp only [BS] at b2
        refine wR 1 [] 133 134 [] [(134, (.bool true))] trivial rfl fun _ => ?_
        refine bp 1 (v := true) rfl rfl rfl rfl ?_
        refine wR 1 [] 2 2 [] [(2, (.bool false))] trivial rfl fun _ => ?_
        refine ag ⟨.inr rfl, _, rfl, false, _, (fT (U) A), (HS.forget z), rfl, (by exact gU (dI (k := k) (by omega) (gT (Bool.eq_false_iff.2 fun hv => by rw [bL] at hv; omega))))⟩
  ·
   try simp only [BS] at bb
   refine wR 1 [] 2 2 [] [(2, (.bool true))] trivial rfl fun _ => ?_
   refine ag ⟨.inr rfl, _, rfl, true, _, (U), (HS.forget a6), rfl, (by exact val_yes hlim (fc ha (by omega)))⟩
set_option maxHeartbeats 1000000 in
theorem kG (ex : FuncId) {T : Option Addr} {U : Nat} (c : VFnT) {F : Fz} {H : Heap} {R : List Fp} (hs : HS (.of H []) F H [] R) (ds : in64 c.params) (dt : in64 c.regs) (A : SR F (.slice T c.blocks.length U) c.blocks) (hT : TB 37 tabC F) (hv : ∀ j, (c.blocks.getD j default).ins.length ≤ 9223372036854775807) : C Tryd.prog 1 (KT 60 ex 37 tabC) 40 [(.agg ⟨[(iI c.params), (iI c.regs), (.slice T c.blocks.length U)]⟩)] H fun v H' => ∃ (r : Bool) (F' : Fz), Fz.le F F' ∧ HS (.of H []) F' H' [] R ∧ v = .bool r ∧ r = b8 c := by
 refine aG Tryd.func40 rfl rfl ?_
 refine aj 1 rfl ?_
 refine aa ?_
 refine aF (bB hs rfl rfl) rfl rfl ?_
 rintro _ H2 _ ⟨b1, rfl, V, _⟩
 let a6 : Fp := [(b1, .cells [(iI c.params), (iI c.regs), (.slice T c.blocks.length U)] none false)]
 have V : HS _ _ _ [a6] _ := V
 refine wa (.bool false) rfl rfl rfl ?_
 refine ae 3 rfl ?_
 refine wR 1 [(1, .o (iI c.params)), (5, .o (iI c.params)), (10, .o (iI c.regs)), (15, .o (iI c.regs)), (20, .o (.slice T c.blocks.length U)), (26, .o (.slice T c.blocks.length U))] 6 35 [] [(35, (.bool ((((((decide (c.params < 0)) || (decide ((6 : Int) < c.params))) || (decide (c.regs < 0))) || (decide ((3000 : Int) < c.regs))) || (decide ((c.blocks.length : Int) < 1))) || (decide ((1000 : Int) < (c.blocks.length : Int))))))] (vA (ql 3 0 (HS.hc V (i := 0) rfl) rfl rfl) (vA (fun (g1 : (decide (c.params < 0)) = false) => (ql 3 0 (HS.hc V (i := 0) rfl) rfl rfl)) (vA (fun (g1 : ((decide (c.params < 0)) || (decide ((6 : Int) < c.params))) = false) => (ql 3 1 (HS.hc V (i := 0) rfl) rfl rfl)) (vA (fun (g1 : (((decide (c.params < 0)) || (decide ((6 : Int) < c.params))) || (decide (c.regs < 0))) = false) => (ql 3 1 (HS.hc V (i := 0) rfl) rfl rfl)) (vA (fun (g1 : ((((decide (c.params < 0)) || (decide ((6 : Int) < c.params))) || (decide (c.regs < 0))) || (decide ((3000 : Int) < c.regs))) = false) => (ql 22 2 (HS.hc V (i := 0) rfl) rfl rfl)) (vA (fun (g1 : (((((decide (c.params < 0)) || (decide ((6 : Int) < c.params))) || (decide (c.regs < 0))) || (decide ((3000 : Int) < c.regs))) || (decide ((c.blocks.length : Int) < 1))) = false) => (ql 22 2 (HS.hc V (i := 0) rfl) rfl rfl)) trivial)))))) rfl fun _ => ?_
 refine ak 1 3 (v := ((((((decide (c.params < 0)) || (decide ((6 : Int) < c.params))) || (decide (c.regs < 0))) || (decide ((3000 : Int) < c.regs))) || (decide ((c.blocks.length : Int) < 1))) || (decide ((1000 : Int) < (c.blocks.length : Int))))) rfl rfl rfl rfl (fun c4 => ?_) (fun c4 => ?_)
 ·
  try simp only [BS] at c4
  refine wR 1 [] 2 2 [] [(2, (.bool false))] trivial rfl fun _ => ?_
  refine ag ⟨.inr rfl, _, rfl, false, _, fR, (HS.forget V), rfl, (by exact val_lim (by omega))⟩
 ·
  try simp only [BS] at c4
  have hlim : 0 ≤ c.params ∧ c.params ≤ 6 ∧ 0 ≤ c.regs ∧ c.regs ≤ 3000 ∧ 1 ≤ c.blocks.length ∧ c.blocks.length ≤ 1000 := by omega
  refine wR 2 [] 1 0 [3] [(3, (iI 0))] trivial rfl fun _ => ?_
  refine ap (fun (mm : Nat) f H' => ∃ (k : Nat) (F' : Fz), Fz.le F F' ∧ HS (Base.of H []) F' H' [a6] R ∧ aI f [(1, (.pointer (some ⟨b1, 0, none⟩))), (3, (iI (k : Int)))] ∧ mm = c.blocks.length - k ∧ (k ≤ c.blocks.length) ∧ (∀ j, j < k → kY c.params c.regs (c.blocks.length : Int) (c.blocks.getD j default) = true)) _ ⟨0, _, fR, V, (agC rfl (agC rfl agN)), rfl, (by first | assumption | omega | (simp at *; omega)), (by exact eg)⟩ ?_
  rintro et f7 H7 ⟨k, F7, an, ar, bz, rfl, hk, ha⟩ ch
  refine au _ bz (fun _ => ?_)
  clear bz
  replace hT := hT.mono an
  replace A := A.mono an
  have hvk := hv k
  refine aj 2 rfl ?_
  refine wR 1 [(2, .o (.slice T c.blocks.length U))] 36 40 [] [(40, (.bool (decide ((k : Int) < (c.blocks.length : Int)))))] (vA (ql 22 2 (HS.hc ar (i := 0) rfl) rfl rfl) trivial) rfl fun _ => ?_
  refine ak 4 5 (v := (decide ((k : Int) < (c.blocks.length : Int)))) rfl rfl rfl rfl (fun c9 => ?_) (fun c9 => ?_)
  ·
   try simp only [BS] at c9
   refine aa ?_
   obtain ⟨z, a5⟩ := Sv.view (SR.sv A ar)
   obtain ⟨ci, cl, co, c0, N⟩ := BlkT.fx (a5 k)
   let av : Value := (.agg ⟨[(.slice (cA (z k) 0) (c.blocks.getD k default).ins.length (cK (z k) 0)), (iI (c.blocks.getD k default).fin), (iI (c.blocks.getD k default).reg), (iI (c.blocks.getD k default).tgt), (iI (c.blocks.getD k default).els)]⟩)
   refine wRo 5 0 [(1, .o (.slice T c.blocks.length U)), (4, .o av)] 43 47 [] [(47, av)] (vA (ql 22 2 (HS.hc ar (i := 0) rfl) rfl rfl) (vA (Sv.ix (j := (k : Int)) (SR.sv A ar) (by omega) (by omega)) (vA (qn 42 0 5 (BlkT.vw (a5 k) (by omega)) rfl rfl rfl rfl) trivial))) rfl fun _ => ?_
   refine aF (bE ar rfl) rfl rfl ?_
   rintro _ d3 _ ⟨aw, rfl, ay, _⟩
   have ay : HS _ _ _ [_, [(aw, .cells [(.slice none 0 0), (iI 0), (iI 0), (iI 0), (iI 0)] none false)]] _ := ay
   refine aM (aD (q := 1) ay rfl rfl rfl rfl rfl rfl rfl rfl rfl) rfl ?_
   rintro _ d4 _ ⟨ad, _⟩
   let b0 : Fp := [(aw, .cells [(.slice (cA (z k) 0) (c.blocks.getD k default).ins.length (cK (z k) 0)), (iI (c.blocks.getD k default).fin), (iI (c.blocks.getD k default).reg), (iI (c.blocks.getD k default).tgt), (iI (c.blocks.getD k default).els)] none false)]
   have ad : HS _ _ _ [_, b0] _ := ad
   refine ae 3 rfl ?_
   refine aa ?_
   let a1 : Value := (.agg ⟨[(iI c.params), (iI c.regs), (.slice T c.blocks.length U)]⟩)
   refine wRo 2 0 [(0, .o av), (1, .o a1)] 48 49 [] [(48, av), (49, a1)] (vA (qn 42 0 5 (HS.hc ad (i := 1) rfl) rfl rfl rfl rfl) (vA (qn 24 0 3 (HS.hc ad (i := 0) rfl) rfl rfl rfl rfl) trivial)) rfl fun _ => ?_
   refine aA (ah rfl rfl rfl) rfl rfl (rEnd_c ex (⟨(c.blocks.getD k default).ins, (c.blocks.getD k default).fin, (c.blocks.getD k default).reg, (c.blocks.getD k default).tgt, (c.blocks.getD k default).els⟩ : BlkT) (⟨c.params, c.regs, c.blocks⟩ : VFnT) (HS.call ad) N (by omega) (by omega) (by omega) (by omega) (by omega) (by omega) A hT) ?_
   rintro _ ea ⟨ez, b9, Y, al, rfl, rfl⟩
   replace al := HS.back ad rfl al
   have al : HS _ _ _ [_, _] _ := al
   replace hT := hT.mono Y
   replace A := A.mono Y
   replace N := N.mono Y
   refine wRo 1 3 [] 51 51 [] [(51, (.bool (!(jE ((⟨c.params, c.regs, c.blocks⟩ : VFnT).blocks.length : Int) (⟨c.params, c.regs, c.blocks⟩ : VFnT).regs (⟨(c.blocks.getD k default).ins, (c.blocks.getD k default).fin, (c.blocks.getD k default).reg, (c.blocks.getD k default).tgt, (c.blocks.getD k default).els⟩ : BlkT)))))] trivial rfl fun _ => ?_
   refine ae 1 rfl ?_
   refine ak 1 2 (v := (!(jE ((⟨c.params, c.regs, c.blocks⟩ : VFnT).blocks.length : Int) (⟨c.params, c.regs, c.blocks⟩ : VFnT).regs (⟨(c.blocks.getD k default).ins, (c.blocks.getD k default).fin, (c.blocks.getD k default).reg, (c.blocks.getD k default).tgt, (c.blocks.getD k default).els⟩ : BlkT)))) rfl rfl rfl rfl (fun ax => ?_) (fun ax => ?_)
   ·
    try simp only [BS] at ax
    have h2 := ax
    refine wR 1 [] 2 2 [] [(2, (.bool false))] trivial rfl fun _ => ?_
    refine ag ⟨.inr rfl, _, rfl, false, _, (fT (an) Y), (HS.forget al), rfl, (by exact gU (dI (by omega) (gT h2)))⟩
   ·
    try simp only [BS] at ax
    have hend := ax
    refine wR 2 [] 1 0 [5] [(5, (iI 0))] trivial rfl fun _ => ?_
    refine ap (fun (mm : Nat) f H' => ∃ (i : Nat) (F' : Fz), Fz.le b9 F' ∧ HS (Base.of H []) F' H' [a6, b0] R ∧ aI f [(1, (.pointer (some ⟨b1, 0, none⟩))), (3, (iI (k : Int))), (4, (.pointer (some ⟨aw, 0, none⟩))), (5, (iI (i : Int))), (40, (.bool (decide ((k : Int) < (c.blocks.length : Int))))), (47, av), (48, av), (49, a1), (50, (.bool (jE ((⟨c.params, c.regs, c.blocks⟩ : VFnT).blocks.length : Int) (⟨c.params, c.regs, c.blocks⟩ : VFnT).regs (⟨(c.blocks.getD k default).ins, (c.blocks.getD k default).fin, (c.blocks.getD k default).reg, (c.blocks.getD k default).tgt, (c.blocks.getD k default).els⟩ : BlkT)))), (51, (.bool (!(jE ((⟨c.params, c.regs, c.blocks⟩ : VFnT).blocks.length : Int) (⟨c.params, c.regs, c.blocks⟩ : VFnT).regs (⟨(c.blocks.getD k default).ins, (c.blocks.getD k default).fin, (c.blocks.getD k default).reg, (c.blocks.getD k default).tgt, (c.blocks.getD k default).els⟩ : BlkT)))))] ∧ mm = (c.blocks.getD k default).ins.length - i ∧ (i ≤ (c.blocks.getD k default).ins.length) ∧ (∀ j, j < i → eu c.params c.regs ((c.blocks.getD k default).ins.getD j default) = true)) _ ⟨0, _, fR, al, (agC rfl (agC rfl (agC rfl (agC rfl (agC rfl (agC rfl (agC rfl (agC rfl (agC rfl (agC rfl agN)))))))))), rfl, (by first | assumption | omega | (simp at *; omega)), (by exact eg)⟩ ?_
    rintro dv es em ⟨i, d1, Z, J, a4, rfl, hi, hb⟩ b6
    refine au _ a4 (fun _ => ?_)
    clear a4
    replace hT := hT.mono Z
    replace A := A.mono Z
    replace N := N.mono Z
    refine aj 2 rfl ?_
    refine wR 1 [(2, .o (.slice (cA (z k) 0) (c.blocks.getD k default).ins.length (cK (z k) 0)))] 52 56 [] [(56, (.bool (decide ((i : Int) < ((c.blocks.getD k default).ins.length : Int)))))] (vA (ql 40 0 (HS.hc J (i := 1) rfl) rfl rfl) trivial) rfl fun _ => ?_
    refine ak 4 5 (v := (decide ((i : Int) < ((c.blocks.getD k default).ins.length : Int)))) rfl rfl rfl rfl (fun a2 => ?_) (fun a2 => ?_)
    ·
     try simp only [BS] at a2
     refine bc rfl ?_
     refine am (v := (.pointer (some ⟨aw, 0, none⟩))) (id := .v) (dA rfl rfl) rfl rfl (br rfl) (be _) ?_
     refine am (v := (.slice (cA (z k) 0) (c.blocks.getD k default).ins.length (cK (z k) 0))) (id := .l aw) (bN (i := 0) rfl rfl (HS.hc J.log0 (i := 1) rfl) rfl rfl) rfl rfl (bT rfl) (⟨.inl rfl, trivial⟩) ?_
     refine fm (iI (i : Int)) rfl rfl rfl ?_
     refine am (v := (.pointer (some ⟨sB (.slice (cA (z k) 0) (c.blocks.getD k default).ins.length (cK (z k) 0)), sO (.slice (cA (z k) 0) (c.blocks.getD k default).ins.length (cK (z k) 0)) + i * Rp.sz VInT, none⟩))) (id := .v) (bU (α := VInT) (j := (i : Int)) rfl rfl rfl rfl (SR.sv N J.log0) (by omega) (by omega)) rfl rfl (br rfl) (be _) ?_
     obtain ⟨dk, b5, b4⟩ := Sv.at (SR.sv N J.log0) (aS (x := default) (show i < (c.blocks.getD k default).ins.length from by omega))
     obtain ⟨a7, bk, rfl, c3, c5, c6, c7, c8, bl⟩ := b5
     refine am (v := (.agg ⟨[(iI ((c.blocks.getD k default).ins.getD i default).i.op), (iI ((c.blocks.getD k default).ins.getD i default).i.a), (iI ((c.blocks.getD k default).ins.getD i default).i.b), (iI ((c.blocks.getD k default).ins.getD i default).i.c), (iI ((c.blocks.getD k default).ins.getD i default).i.n), (.slice a7 ((c.blocks.getD k default).ins.getD i default).args.length bk)]⟩)) (id := .l (sB (.slice (cA (z k) 0) (c.blocks.getD k default).ins.length (cK (z k) 0)))) (cY (i := 0) rfl rfl rfl b4 rfl rfl rfl) rfl rfl (bT rfl) (⟨.inl rfl, ⟨.inl rfl, ⟨.inl rfl, ⟨.inl rfl, trivial⟩⟩⟩⟩) ?_
     refine am (v := a1) (id := .l b1) (cY (i := 0) rfl rfl rfl (HS.hc J.log0 (i := 0) rfl) rfl rfl rfl) rfl rfl (bT rfl) (⟨.inr trivial, ⟨.inr trivial, ⟨.inr trivial, ⟨.inr trivial, ⟨.inr trivial, trivial⟩⟩⟩⟩⟩) ?_
     refine aX (W := []) (ah rfl rfl rfl) rfl rfl rfl (rinstr_c ex ((c.blocks.getD k default).ins.getD i default) (⟨c.params, c.regs, c.blocks⟩ : VFnT) (HS.call J.log0) (by omega) (by omega) (by omega) (by omega) (by omega) bl (by omega) (by omega) A hT) (⟨.inl rfl, ⟨.inl rfl, ⟨.inl rfl, ⟨.inl rfl, ⟨.inl rfl, ⟨.inl rfl, trivial⟩⟩⟩⟩⟩⟩) ?_
     rintro _ cc ⟨e0, d2, a3, E, rfl, rfl⟩
     refine ⟨Wr.did E.log, fun b7 bb => ?_⟩
     replace E := HS.back J.log0 rfl E
     replace E := HS.lg E J bb
     generalize ({ cc with log := b7 } : Heap) = dd at E ⊢
     have E : HS _ _ _ [_, _] _ := E
     refine am (v := (.bool (!(eu (⟨c.params, c.regs, c.blocks⟩ : VFnT).params (⟨c.params, c.regs, c.blocks⟩ : VFnT).regs ((c.blocks.getD k default).ins.getD i default))))) (id := .v) (jz rfl) rfl rfl (br rfl) (be _) ?_
     refine cz ?_
     refine aj 1 rfl ?_
     refine ak 1 2 (v := (!(eu (⟨c.params, c.regs, c.blocks⟩ : VFnT).params (⟨c.params, c.regs, c.blocks⟩ : VFnT).regs ((c.blocks.getD k default).ins.getD i default)))) rfl rfl rfl rfl (fun a0 => ?_) (fun a0 => ?_)
     ·
      try simp only [BS] at a0
      have h4 := a0
      refine wR 1 [] 2 2 [] [(2, (.bool false))] trivial rfl fun _ => ?_
      refine ag ⟨.inr rfl, _, rfl, false, _, (fT (fT (fT (an) Y) Z) a3), (HS.forget E), rfl, (by exact gU (dI (by omega) (blk_no (dI (by omega) h4))))⟩
     ·
      try simp only [BS] at a0
      refine wR 1 [] 57 58 [5] [(5, (iI ((i : Int) + 1)))] (vA (vi (n := (i : Int) + 1) (by omega)) trivial) rfl fun _ => ?_
      refine b6 _ _ _ ?_ ⟨i + 1, _, (fT (Z) a3), E, (agC rfl (agC rfl (agC rfl (agC rfl (agC rfl (agC rfl (agC rfl (agC rfl (agC rfl (agC rfl agN)))))))))), rfl, (by first | assumption | omega | (simp at *; omega)), (by exact cR hb (by assumption))⟩
      omega
    ·
     try simp only [BS] at a2
     have hal := fc hb (by omega)
     refine wR 1 [] 41 42 [3] [(3, (iI ((k : Int) + 1)))] (vA (vi (n := (k : Int) + 1) (by omega)) trivial) rfl fun _ => ?_
     refine ch _ _ _ ?_ ⟨k + 1, _, (fT (fT (an) Y) Z), (HS.sub J (List.sublist_append_left _ _)), (agC rfl (agC rfl agN)), rfl, (by first | assumption | omega | (simp at *; omega)), (by exact cR ha (gS hal hend))⟩
     omega
  ·
   try simp only [BS] at c9
   refine wR 1 [] 2 2 [] [(2, (.bool true))] trivial rfl fun _ => ?_
   refine ag ⟨.inr rfl, _, rfl, true, _, (an), (HS.forget ar), rfl, (by exact val_yes hlim (fc ha (by omega)))⟩
end Go.Proofs.YtlabedbmgmfbaaaDoor.m3
