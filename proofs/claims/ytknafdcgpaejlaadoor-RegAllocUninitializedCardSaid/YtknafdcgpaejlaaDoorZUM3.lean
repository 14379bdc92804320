/-
 Which virtual code is valid: the program and the reference, each by a symbolic run. No condition but that the table lies as laid.
-/
import Derived.Test.YtknafdcgpaejlaaDoorZUM2
import Derived.Test.YtknafdcgpaejlaaDoorZURC
noncomputable section
namespace Go.Proofs.YtknafdcgpaejlaaDoor.m3
open Go.R
set_option maxRecDepth 10000
set_option linter.unusedVariables false
set_option linter.unusedSimpArgs false
variable (ex : FuncId) {F : Fz} {H : Heap} {R : List Fp}
open m1 m2
theorem cBlk_c (n : Int) {A : Option Addr} {E : Nat} {b_c : Nat} (c : VFnT) (H : Heap) (hn : in64 n) (hc_c : HC H.get b_c 0 [(iI c.params), (iI c.regs), (.slice A c.blocks.length E)]) (J : in64 c.params) (N : in64 c.regs) : kKt ex 90 [(iI n), (.pointer (some ⟨b_c, 0, none⟩))] H fun v H' => ∃ (r : Bool), H' = H ∧ v = .bool r ∧ r = aL (c.blocks.length : Int) n := by
 refine aH Tryd.func90 rfl rfl (ah 1 rfl (wT 2 [] 3 3 [] [(3, (.bool false))] rfl fun _ => wU 1 [(5, .o (.slice A c.blocks.length E))] 3 12 [] [(3, (.bool ((decide ((0 : Int) ≤ n)) && (decide (n < (c.blocks.length : Int))))))] (fun (T : (decide ((0 : Int) ≤ n)) = true) => (ql 22 2 hc_c rfl rfl)) rfl fun _ => ak ⟨.inr rfl, _, rfl, ((decide ((0 : Int) ≤ n)) && (decide (n < (c.blocks.length : Int)))), rfl, rfl, (by rw [a0m, aX]; simp)⟩))
theorem kv (n : Int) {A : Option Addr} {N : Nat} {b_c : Nat} (c : VFnT) (H : Heap) (hn : in64 n) (hc_c : HC H.get b_c 0 [(iI c.params), (iI c.regs), (.slice A c.blocks.length N)]) (E : in64 c.params) (J : in64 c.regs) : kKt ex 90 [(iI n), (.pointer (some ⟨b_c, 0, none⟩))] H fun v H' => v = (.bool (aL (c.blocks.length : Int) n)) ∧ H' = H :=
 cq (cBlk_c ex n c H hn hc_c E J) (by rintro _ _ ⟨_, rfl, rfl, rfl⟩; exact ⟨rfl, rfl⟩)
theorem cReg_c (n : Int) {A : Option Addr} {E : Nat} {b_c : Nat} (c : VFnT) (H : Heap) (hn : in64 n) (hc_c : HC H.get b_c 0 [(iI c.params), (iI c.regs), (.slice A c.blocks.length E)]) (J : in64 c.params) (N : in64 c.regs) : kKt ex 91 [(iI n), (.pointer (some ⟨b_c, 0, none⟩))] H fun v H' => ∃ (r : Bool), H' = H ∧ v = .bool r ∧ r = aL c.regs n := by
 refine aH Tryd.func91 rfl rfl (ah 1 rfl (wT 2 [] 3 3 [] [(3, (.bool false))] rfl fun _ => wU 1 [(5, .o (iI c.regs))] 3 11 [] [(3, (.bool ((decide ((0 : Int) ≤ n)) && (decide (n < c.regs)))))] (fun (T : (decide ((0 : Int) ≤ n)) = true) => (ql 3 1 hc_c rfl rfl)) rfl fun _ => ak ⟨.inr rfl, _, rfl, ((decide ((0 : Int) ≤ n)) && (decide (n < c.regs))), rfl, rfl, (by rw [a0m, aX]; simp)⟩))
theorem cReg_c_q (n : Int) {A : Option Addr} {N : Nat} {b_c : Nat} (c : VFnT) (H : Heap) (hn : in64 n) (hc_c : HC H.get b_c 0 [(iI c.params), (iI c.regs), (.slice A c.blocks.length N)]) (E : in64 c.params) (J : in64 c.regs) : kKt ex 91 [(iI n), (.pointer (some ⟨b_c, 0, none⟩))] H fun v H' => v = (.bool (aL c.regs n)) ∧ H' = H :=
 cq (cReg_c ex n c H hn hc_c E J) (by rintro _ _ ⟨_, rfl, rfl, rfl⟩; exact ⟨rfl, rfl⟩)
theorem cRegI_c (n : Int) {A : Option Addr} {E : Nat} {b_c : Nat} (c : VFnT) (H : Heap) (hn : in64 n) (hc_c : HC H.get b_c 0 [(iI c.params), (iI c.regs), (.slice A c.blocks.length E)]) (J : in64 c.params) (N : in64 c.regs) : kKt ex 130 [(iI n), (.pointer (some ⟨b_c, 0, none⟩))] H fun v H' => ∃ (r : Bool), H' = H ∧ v = .bool r ∧ r = aL c.regs n := by
 refine aH Tryd.func130 rfl rfl (ah 1 rfl (wT 2 [] 3 3 [] [(3, (.bool false))] rfl fun _ => wU 1 [(5, .o (iI c.regs))] 3 11 [] [(3, (.bool ((decide ((0 : Int) ≤ n)) && (decide (n < c.regs)))))] (fun (T : (decide ((0 : Int) ≤ n)) = true) => (ql 3 1 hc_c rfl rfl)) rfl fun _ => ak ⟨.inr rfl, _, rfl, ((decide ((0 : Int) ≤ n)) && (decide (n < c.regs))), rfl, rfl, (by rw [a0m, aX]; simp)⟩))
theorem gj (n : Int) {A : Option Addr} {N : Nat} {b_c : Nat} (c : VFnT) (H : Heap) (hn : in64 n) (hc_c : HC H.get b_c 0 [(iI c.params), (iI c.regs), (.slice A c.blocks.length N)]) (E : in64 c.params) (J : in64 c.regs) : kKt ex 130 [(iI n), (.pointer (some ⟨b_c, 0, none⟩))] H fun v H' => v = (.bool (aL c.regs n)) ∧ H' = H :=
 cq (cRegI_c ex n c H hn hc_c E J) (by rintro _ _ ⟨_, rfl, rfl, rfl⟩; exact ⟨rfl, rfl⟩)
theorem vform_c (op : Int) (hs : HS (.of H []) F H [] R) (hop : in64 op) (hT : TB 37 tabC F) : kKt ex 131 [(iI op)] H fun v H' => ∃ (r : Int) (F' : Fz), Fz.le F F' ∧ HS (.of H []) F' H' [] R ∧ v = .int .i64 r ∧ r = aC op := by
 refine aH Tryd.func131 rfl rfl (ah 1 rfl (wT 3 [] 2 2 [] [(2, (iI 0))] rfl fun _ => wT 1 [] 5 6 [] [(6, (.bool (op == 38)))] rfl fun _ => am 1 2 (v := (op == 38)) rfl rfl rfl rfl (fun A => ?_) (fun A => ?_)))
 ·
  have N := A
  try simp only [BS] at N
  refine wT 1 [] 2 2 [] [(2, (iI 5))] rfl fun _ => ak ⟨.inr rfl, _, rfl, 5, _, fR, (HS.forget hs), rfl, (by unfold aC; split <;> first | rfl | omega)⟩
 have N := A
 try simp only [BS] at N
 refine aa (wm (iI op) rfl rfl rfl (aA (aq rfl rfl rfl) rfl rfl (m1.mInfo_c ex op (HS.call hs) (by omega) hT) ?_))
 rintro _ H5 ⟨x5, o5, F5, U, E, rfl, V, Z, rfl, rfl⟩
 replace E : HS _ _ _ [] _ := HS.back hs rfl E
 refine wTo 3 2 [] 10 11 [7] [(10, (.agg ⟨[(.string ⟨⟨(aK op).name.b⟩⟩), (iI (aK op).form), (.bool (aK op).ra), (.bool (aK op).wa), (.bool (aK op).rb), (.bool (aK op).mt), (iI (aK op).words)]⟩)), (11, (.bool (infO op)))] rfl fun _ => aG (bp E rfl) rfl rfl ?_
 rintro _ H8 _ ⟨T, rfl, (ad : HS _ _ _ [[(T, .cells [(.string ⟨⟨[]⟩⟩), (iI 0), (.bool false), (.bool false), (.bool false), (.bool false), (iI 0)] none false)]] _), _⟩
 refine aN (aI (q := 0) ad rfl rfl rfl rfl rfl rfl rfl rfl rfl) rfl ?_
 rintro _ H9 _ ⟨(J : HS _ _ _ [[(T, .cells [(.string ⟨⟨(aK op).name.b⟩⟩), (iI (aK op).form), (.bool (aK op).ra), (.bool (aK op).wa), (.bool (aK op).rb), (.bool (aK op).mt), (iI (aK op).words)] none false)]] _), _⟩
 refine wa (.bool (infO op)) rfl rfl rfl (ae 2 rfl (wU 1 [(1, .o (iI (aK op).form))] 12 13 [2] [(2, (iI (aK op).form))] (ql 3 1 (HS.hc J (i := 0) rfl) rfl rfl) rfl fun _ => ak ⟨.inr rfl, _, rfl, (aK op).form, _, (U), (HS.forget J), rfl, (by unfold aC; split <;> first | rfl | omega)⟩))
theorem rinfo_c (op : Int) (hs : HS (.of H []) F H [] R) (hop : in64 op) (hT : TB 37 tabC F) : kKt ex 100 [(iI op)] H fun v H' => ∃ (x : InfT) (F' : Fz), Fz.le F F' ∧ HS (.of H []) F' H' [] R ∧ v = .agg ⟨[.string ⟨⟨x.name.b⟩⟩, .int .i64 x.form, .bool x.ra, .bool x.wa, .bool x.rb, .bool x.mt, .int .i64 x.words]⟩ ∧ in64 x.form ∧ in64 x.words ∧ x = aJ op := by
 refine aH Tryd.func100 rfl rfl (ah 1 rfl (aa (aG (bp hs rfl) rfl rfl ?_)))
 rintro _ H2 _ ⟨Z, rfl, (N : HS _ _ _ [[(Z, .cells [(.string ⟨⟨[]⟩⟩), (iI 0), (.bool false), (.bool false), (.bool false), (.bool false), (iI 0)] none false)]] _), _⟩
 refine ae 3 rfl (wT 1 [] 5 6 [] [(6, (.bool (op == 38)))] rfl fun _ => am 1 2 (v := (op == 38)) rfl rfl rfl rfl (fun A => ?_) (fun A => ?_))
 ·
  have c4 := A
  try simp only [BS] at c4
  refine aa (wTo 1 0 [] 7 7 [] [(7, (.agg ⟨[(.string ⟨⟨[]⟩⟩), (iI 5), (.bool false), (.bool true), (.bool false), (.bool false), (iI 0)]⟩))] rfl fun _ => aN (aI (q := 0) N rfl rfl rfl rfl rfl rfl rfl rfl rfl) rfl ?_)
  rintro _ H6 _ ⟨(V : HS _ _ _ [[(Z, .cells [(.string ⟨⟨[]⟩⟩), (iI 5), (.bool false), (.bool true), (.bool false), (.bool false), (iI 0)] none false)]] _), _⟩
  refine ae 1 rfl (ak ⟨.inr rfl, _, (rC rfl (ldVN rfl rfl (HS.hc V (i := 0) rfl) rfl) rN), (⟨⟨[]⟩, 5, false, true, false, false, 0⟩ : InfT), _, fR, (HS.forget V), rfl, (by (dsimp only; omega)), (by (dsimp only; omega)), (by unfold aJ; split <;> first | rfl | omega)⟩)
 have c4 := A
 try simp only [BS] at c4
 refine aa (wm (iI op) rfl rfl rfl (aA (aq rfl rfl rfl) rfl rfl (m1.rInfo_c ex op (HS.call N) (by omega) hT) ?_))
 rintro _ H7 ⟨x7, o7, F7, an, T, rfl, ar, av, rfl, rfl⟩
 replace T : HS _ _ _ [_] _ := HS.back N rfl T
 let U : Value := (.agg ⟨[(.string ⟨⟨(aK op).name.b⟩⟩), (iI (aK op).form), (.bool (aK op).ra), (.bool (aK op).wa), (.bool (aK op).rb), (.bool (aK op).mt), (iI (aK op).words)]⟩)
 refine wTo 3 2 [] 11 12 [8] [(11, U), (12, (.bool (infO op)))] rfl fun _ => aG (bp T rfl) rfl rfl ?_
 rintro _ aw _ ⟨b9, rfl, (ag : HS _ _ _ [_, [(b9, .cells [(.string ⟨⟨[]⟩⟩), (iI 0), (.bool false), (.bool false), (.bool false), (.bool false), (iI 0)] none false)]] _), _⟩
 refine aN (aI (q := 1) ag rfl rfl rfl rfl rfl rfl rfl rfl rfl) rfl ?_
 rintro _ ax _ ⟨(E : HS _ _ _ [_, [(b9, .cells [(.string ⟨⟨(aK op).name.b⟩⟩), (iI (aK op).form), (.bool (aK op).ra), (.bool (aK op).wa), (.bool (aK op).rb), (.bool (aK op).mt), (iI (aK op).words)] none false)]] _), _⟩
 refine wa (.bool (infO op)) rfl rfl rfl (ae 2 rfl (aa (wUo 1 0 [(0, .o U)] 13 13 [] [(13, U)] (qn 105 0 7 (HS.hc E (i := 1) rfl) rfl rfl rfl rfl) rfl fun _ => aN (aI (q := 0) E rfl rfl rfl rfl rfl rfl rfl rfl rfl) rfl ?_)))
 rintro _ ay _ ⟨(J : HS _ _ _ [[(Z, .cells [(.string ⟨⟨(aK op).name.b⟩⟩), (iI (aK op).form), (.bool (aK op).ra), (.bool (aK op).wa), (.bool (aK op).rb), (.bool (aK op).mt), (iI (aK op).words)] none false)], _] _), _⟩
 refine ae 1 rfl (ak ⟨.inr rfl, _, (rC rfl (ldVN rfl rfl (HS.hc J (i := 0) rfl) rfl) rN), (⟨⟨(aK op).name.b⟩, (aK op).form, (aK op).ra, (aK op).wa, (aK op).rb, (aK op).mt, (aK op).words⟩ : InfT), _, (an), (HS.forget J), rfl, (by omega), (by omega), (by unfold aJ; split <;> first | rfl | omega)⟩)
theorem rOperand_c (has : Bool) (n : Int) (regs : Int) (H : Heap) (hn : in64 n) (hregs : in64 regs) : kKt ex 132 [(.bool has), (iI n), (iI regs)] H fun v H' => ∃ (r : Bool), H' = H ∧ v = .bool r ∧ r = dq has n regs := by
 refine aH Tryd.func132 rfl rfl (ah 1 rfl (wT 3 [] 6 6 [] [(6, (.bool false))] rfl fun _ => wT 1 [] 7 7 [] [(7, (.bool has))] rfl fun _ => am 1 2 (v := has) rfl rfl rfl rfl (fun A => ?_) (fun A => ?_)))
 ·
  have E := A
  try simp only [BS] at E
  refine wT 1 [] 8 14 [6] [(6, (.bool ((decide ((0 : Int) ≤ n)) && (decide (n < regs)))))] rfl fun _ => ak ⟨.inr rfl, _, rfl, ((decide ((0 : Int) ≤ n)) && (decide (n < regs))), rfl, rfl, (by rw [a0m]; unfold dq; simp [aX, A])⟩
 have E := A
 try simp only [BS] at E
 refine wT 1 [] 15 16 [6] [(6, (.bool (n == 0)))] rfl fun _ => ak ⟨.inr rfl, _, rfl, (n == 0), rfl, rfl, (by rw [a0m]; unfold dq; simp [aX, A])⟩
theorem eP (has : Bool) (n : Int) (regs : Int) (H : Heap) (hn : in64 n) (hregs : in64 regs) : kKt ex 132 [(.bool has), (iI n), (iI regs)] H fun v H' => v = (.bool (dq has n regs)) ∧ H' = H :=
 cq (rOperand_c ex has n regs H hn hregs) (by rintro _ _ ⟨_, rfl, rfl, rfl⟩; exact ⟨rfl, rfl⟩)
set_option maxHeartbeats 1000000 in
theorem vinstr_c {ar : Option Addr} {ax : Nat} (c : VFnT) {J : Option Addr} {N : Nat} (iv : VInT) (hs : HS (.of H []) F H [] R) (e3 : in64 c.params) (e4 : in64 c.regs) (e5 : SR F (.slice ar c.blocks.length ax) c.blocks) (em : in64 iv.i.op) (es : in64 iv.i.a) (et : in64 iv.i.b) (ez : in64 iv.i.c) (e0 : in64 iv.i.n) (ag : SR F (.slice J iv.args.length N) iv.args) (hT : TB 37 tabC F) : kKt ex 92 [(.agg ⟨[(iI c.params), (iI c.regs), (.slice ar c.blocks.length ax)]⟩), (.agg ⟨[(iI iv.i.op), (iI iv.i.a), (iI iv.i.b), (iI iv.i.c), (iI iv.i.n), (.slice J iv.args.length N)]⟩)] H fun v H' => ∃ (r : Bool) (F' : Fz), Fz.le F F' ∧ HS (.of H []) F' H' [] R ∧ v = .bool r ∧ r = eJ c.params c.regs iv := by
 refine aH Tryd.func92 rfl rfl (ah 1 rfl (aa (aG (bG hs rfl rfl) rfl rfl ?_)))
 rintro _ H2 _ ⟨b1, rfl, (d2 : HS _ _ _ [[(b1, .cells [(iI c.params), (iI c.regs), (.slice ar c.blocks.length ax)] none false)]] _), _⟩
 refine aG (bG d2 rfl rfl) rfl rfl ?_
 rintro _ H4 _ ⟨b3, rfl, (c9 : HS _ _ _ [_, [(b3, .cells [(iI iv.i.op), (iI iv.i.a), (iI iv.i.b), (iI iv.i.c), (iI iv.i.n), (.slice J iv.args.length N)] none false)]] _), _⟩
 let dd : Value := (.agg ⟨[(iI iv.i.op), (iI iv.i.a), (iI iv.i.b), (iI iv.i.c), (iI iv.i.n)]⟩)
 refine wa (.bool false) rfl rfl rfl (ae 2 rfl (aa (wUo 2 0 [(1, .o dd)] 13 14 [] [(14, dd)] (qn 50 0 5 (HS.hc c9 (i := 1) rfl) rfl rfl rfl rfl) rfl fun _ => aG (bp c9 rfl) rfl rfl ?_)))
 rintro _ H7 _ ⟨b6, rfl, (ea : HS _ _ _ [_, _, [(b6, .cells [(iI 0), (iI 0), (iI 0), (iI 0), (iI 0)] none false)]] _), _⟩
 refine aN (aI (q := 2) ea rfl rfl rfl rfl rfl rfl rfl rfl rfl) rfl ?_
 rintro _ H8 _ ⟨(an : HS _ _ _ [_, _, [(b6, .cells [(iI iv.i.op), (iI iv.i.a), (iI iv.i.b), (iI iv.i.c), (iI iv.i.n)] none false)]] _), _⟩
 refine ae 3 rfl (wR 1 [(1, .o (iI iv.i.op)), (2, .o (.bool (alV iv.i.op))), (6, .o (.slice J iv.args.length N)), (12, .o (iI iv.i.op)), (16, .o (.slice J iv.args.length N))] 15 35 [] [(35, (.bool (((!(alV iv.i.op)) || (decide ((6 : Int) < (iv.args.length : Int)))) || ((iv.i.op != 6) && (decide ((0 : Int) < (iv.args.length : Int)))))))] (vA (ql 3 0 (HS.hc an (i := 2) rfl) rfl rfl) (vA (m1.jV ex iv.i.op H8) (vA (fun (E : (!(alV iv.i.op)) = false) => (ql 25 5 (HS.hc an (i := 1) rfl) rfl rfl)) (vA (fun (E : ((!(alV iv.i.op)) || (decide ((6 : Int) < (iv.args.length : Int)))) = false) => (ql 3 0 (HS.hc an (i := 2) rfl) rfl rfl)) (vA (fun (E : (iv.i.op != 6) = true) (Z : ((!(alV iv.i.op)) || (decide ((6 : Int) < (iv.args.length : Int)))) = false) => (ql 25 5 (HS.hc an (i := 1) rfl) rfl rfl)) trivial))))) rfl fun _ => am 1 2 (v := (((!(alV iv.i.op)) || (decide ((6 : Int) < (iv.args.length : Int)))) || ((iv.i.op != 6) && (decide ((0 : Int) < (iv.args.length : Int)))))) rfl rfl rfl rfl (fun a2 => ?_) (fun a2 => ?_))
 ·
  have a0 := a2
  try simp only [BS] at a0
  have hbad := a0
  refine wT 1 [] 4 4 [] [(4, (.bool false))] rfl fun _ => ak ⟨.inr rfl, _, rfl, false, _, fR, (HS.forget an), rfl, (by exact vin_bad hbad)⟩
 have a0 := a2
 try simp only [BS] at a0
 have hal : alV iv.i.op = true := (a0).1.1
 have h6 : iv.i.op = 6 ∨ iv.args.length = 0 := by omega
 have c8 : iv.args.length ≤ 6 := by omega
 refine wT 3 [] 36 36 [6] [(6, (.func (.func 130) #[] #[(.pointer (some ⟨b1, 0, none⟩))]))] rfl fun _ => wU 2 [(1, .o (.slice J iv.args.length N))] 37 40 [] [(38, (.slice J iv.args.length N)), (39, (iI (iv.args.length : Int))), (40, (iI 0))] (ql 25 5 (HS.hc an (i := 1) rfl) rfl rfl) rfl fun _ => aj (fun (mm : Nat) f H' => ∃ (k : Nat) (F' : Fz), Fz.le F F' ∧ HS (Base.of H []) F' H' [[(b1, .cells [(iI c.params), (iI c.regs), (.slice ar c.blocks.length ax)] none false)], [(b3, .cells [(iI iv.i.op), (iI iv.i.a), (iI iv.i.b), (iI iv.i.c), (iI iv.i.n), (.slice J iv.args.length N)] none false)], [(b6, .cells [(iI iv.i.op), (iI iv.i.a), (iI iv.i.b), (iI iv.i.c), (iI iv.i.n)] none false)]] R ∧ aD f [(2, (.pointer (some ⟨b1, 0, none⟩))), (5, (.pointer (some ⟨b6, 0, none⟩))), (6, (.func (.func 130) #[] #[(.pointer (some ⟨b1, 0, none⟩))])), (38, (.slice J iv.args.length N)), (39, (iI (iv.args.length : Int))), (40, (iI (k : Int)))] ∧ mm = iv.args.length - k ∧ (k ≤ iv.args.length) ∧ (∀ j, j < k → aL c.regs (iv.args.getD j default) = true)) _ ⟨0, _, fR, an, ⟨rfl, rfl, rfl, rfl, rfl, rfl, trivial⟩, rfl, (by omega), (by exact ef)⟩ ?_
 rintro e6 fi dl ⟨k, e9, T, U, c5, rfl, hk, ha⟩ dk
 refine ap _ c5 (fun _ => ?_)
 clear c5
 replace hT := hT.mono T
 replace ag := ag.mono T
 refine ah 1 rfl (wT 2 [] 41 41 [] [(41, (.bool (decide ((k : Int) < (iv.args.length : Int)))))] rfl fun _ => am 4 5 (v := (decide ((k : Int) < (iv.args.length : Int)))) rfl rfl rfl rfl (fun a3 => ?_) (fun a3 => ?_))
 ·
  have b2 := a3
  try simp only [BS] at b2
  obtain ⟨e2, c7⟩ := Sv.view (SR.sv ag U)
  have f1 := fI (c7 k)
  refine wR 2 [(1, .o (iI (iv.args.getD k 0)))] 42 43 [8] [(8, (iI (iv.args.getD k 0)))] (vA (Sv.ix (j := (k : Int)) (SR.sv ag U) (by omega) (by omega)) (vA (ql 3 0 (vI (c7 k) (by omega)) rfl rfl) trivial)) rfl fun _ => wU 1 [(2, .o (.bool (aL (⟨c.params, c.regs, c.blocks⟩ : VFnT).regs (iv.args.getD k 0))))] 44 47 [] [(47, (.bool (!(aL (⟨c.params, c.regs, c.blocks⟩ : VFnT).regs (iv.args.getD k 0)))))] (gj ex (iv.args.getD k 0) (⟨c.params, c.regs, c.blocks⟩ : VFnT) dl (by omega) (HS.hc U (i := 0) rfl) (by omega) (by omega)) rfl fun _ => am 1 2 (v := (!(aL (⟨c.params, c.regs, c.blocks⟩ : VFnT).regs (iv.args.getD k 0)))) rfl rfl rfl rfl (fun a4 => ?_) (fun a4 => ?_)
  ·
   have bz := a4
   try simp only [BS] at bz
   have dt := bz
   refine wT 1 [] 4 4 [] [(4, (.bool false))] rfl fun _ => ak ⟨.inr rfl, _, rfl, false, _, (T), (HS.forget U), rfl, (by exact vin_no (dF (by omega) dt))⟩
  have bz := a4
  try simp only [BS] at bz
  refine wU 1 [] 40 40 [48] [(40, (iI ((k : Int) + 1)))] (vi (n := (k : Int) + 1) (by omega)) rfl fun _ => dk _ _ _ ?_ ⟨k + 1, _, (T), U, ⟨rfl, rfl, rfl, rfl, rfl, rfl, trivial⟩, rfl, (by omega), (by exact cR ha (by assumption))⟩
  omega
 have b2 := a3
 try simp only [BS] at b2
 have hall := e7 ha (by omega)
 refine wT 3 [] 1 0 [9, 10, 11, 12] [(9, (.bool false)), (10, (.bool false)), (11, (.bool false)), (12, (.bool false))] rfl fun _ => aa (wUo 2 0 [(1, .o (iI iv.i.op))] 49 50 [] [(50, (iI iv.i.op))] (ql 3 0 (HS.hc U (i := 2) rfl) rfl rfl) rfl fun _ => aA (aq rfl rfl rfl) rfl rfl (vform_c ex iv.i.op (HS.call U) (by omega) hT) ?_)
 rintro _ ay ⟨f2, fd, V, A, rfl, rfl⟩
 replace A : HS _ _ _ [_, _, _] _ := HS.back U rfl A
 refine ae 3 rfl (wT 1 [] 52 53 [] [(52, (.bool (aC iv.i.op == 2)))] rfl fun _ => bU (fun f H' => ∃ (av : Bool) (bv : Bool) (dv : Bool) (nv : Bool), H' = ay ∧ aD f [(2, (.pointer (some ⟨b1, 0, none⟩))), (5, (.pointer (some ⟨b6, 0, none⟩))), (6, (.func (.func 130) #[] #[(.pointer (some ⟨b1, 0, none⟩))])), (9, (.bool av)), (10, (.bool bv)), (11, (.bool dv)), (12, (.bool nv))] ∧ (av = decide (aC iv.i.op ≠ 1)) ∧ (bv = decide (aC iv.i.op = 3 ∨ aC iv.i.op = 4 ∨ aC iv.i.op = 7)) ∧ (dv = decide (aC iv.i.op = 4)) ∧ (nv = decide (aC iv.i.op = 5 ∨ aC iv.i.op = 7))) (fun ad => ?_) ?_)
 ·
  refine am 0 1 (v := (aC iv.i.op == 2)) rfl rfl rfl rfl (fun a5 => ?_) (fun a5 => ?_)
  ·
   have b4 := a5
   try simp only [BS] at b4
   refine wT 0 [] 1 0 [9] [(9, (.bool true))] rfl fun _ => ?_
   exact ad _ _ ⟨true, false, false, false, rfl, ⟨rfl, rfl, rfl, rfl, rfl, rfl, rfl, trivial⟩, (by (symm; apply decide_eq_true; omega)), (by (symm; apply decide_eq_false; have hf := ba hal; omega)), (by (symm; apply decide_eq_false; have hf := ba hal; omega)), (by (symm; apply decide_eq_false; have hf := ba hal; omega))⟩
  have b4 := a5
  try simp only [BS] at b4
  refine wT 1 [] 54 55 [] [(54, (.bool (aC iv.i.op == 3)))] rfl fun _ => am 0 1 (v := (aC iv.i.op == 3)) rfl rfl rfl rfl (fun a6 => ?_) (fun a6 => ?_)
  ·
   have b5 := a6
   try simp only [BS] at b5
   refine wT 0 [] 1 0 [9, 10] [(9, (.bool true)), (10, (.bool true))] rfl fun _ => ?_
   exact ad _ _ ⟨true, true, false, false, rfl, ⟨rfl, rfl, rfl, rfl, rfl, rfl, rfl, trivial⟩, (by (symm; apply decide_eq_true; omega)), (by (symm; apply decide_eq_true; omega)), (by (symm; apply decide_eq_false; have hf := ba hal; omega)), (by (symm; apply decide_eq_false; have hf := ba hal; omega))⟩
  have b5 := a6
  try simp only [BS] at b5
  refine wT 1 [] 56 57 [] [(56, (.bool (aC iv.i.op == 4)))] rfl fun _ => am 0 1 (v := (aC iv.i.op == 4)) rfl rfl rfl rfl (fun a7 => ?_) (fun a7 => ?_)
  ·
   have b7 := a7
   try simp only [BS] at b7
   refine wT 0 [] 1 0 [9, 10, 11] [(9, (.bool true)), (10, (.bool true)), (11, (.bool true))] rfl fun _ => ?_
   exact ad _ _ ⟨true, true, true, false, rfl, ⟨rfl, rfl, rfl, rfl, rfl, rfl, rfl, trivial⟩, (by (symm; apply decide_eq_true; omega)), (by (symm; apply decide_eq_true; omega)), (by (symm; apply decide_eq_true; omega)), (by (symm; apply decide_eq_false; have hf := ba hal; omega))⟩
  have b7 := a7
  try simp only [BS] at b7
  refine wT 1 [] 58 59 [] [(58, (.bool (aC iv.i.op == 5)))] rfl fun _ => am 0 1 (v := (aC iv.i.op == 5)) rfl rfl rfl rfl (fun a8 => ?_) (fun a8 => ?_)
  ·
   have b9 := a8
   try simp only [BS] at b9
   refine wT 0 [] 1 0 [9, 12] [(9, (.bool true)), (12, (.bool true))] rfl fun _ => ?_
   exact ad _ _ ⟨true, false, false, true, rfl, ⟨rfl, rfl, rfl, rfl, rfl, rfl, rfl, trivial⟩, (by (symm; apply decide_eq_true; omega)), (by (symm; apply decide_eq_false; have hf := ba hal; omega)), (by (symm; apply decide_eq_false; have hf := ba hal; omega)), (by (symm; apply decide_eq_true; omega))⟩
  have b9 := a8
  try simp only [BS] at b9
  refine wT 1 [] 60 61 [] [(60, (.bool (aC iv.i.op == 7)))] rfl fun _ => am 0 0 (v := (aC iv.i.op == 7)) rfl rfl rfl rfl (fun a9 => ?_) (fun a9 => ?_)
  ·
   have cc := a9
   try simp only [BS] at cc
   refine wT 0 [] 1 0 [9, 10, 12] [(9, (.bool true)), (10, (.bool true)), (12, (.bool true))] rfl fun _ => ?_
   exact ad _ _ ⟨true, true, false, true, rfl, ⟨rfl, rfl, rfl, rfl, rfl, rfl, rfl, trivial⟩, (by (symm; apply decide_eq_true; omega)), (by (symm; apply decide_eq_true; omega)), (by (symm; apply decide_eq_false; have hf := ba hal; omega)), (by (symm; apply decide_eq_true; omega))⟩
  have cc := a9
  try simp only [BS] at cc
  exact ad _ _ ⟨false, false, false, false, rfl, ⟨rfl, rfl, rfl, rfl, rfl, rfl, rfl, trivial⟩, (by (symm; apply decide_eq_false; have hf := ba hal; omega)), (by (symm; apply decide_eq_false; have hf := ba hal; omega)), (by (symm; apply decide_eq_false; have hf := ba hal; omega)), (by (symm; apply decide_eq_false; have hf := ba hal; omega))⟩
 skip
 rintro f0 ay ⟨av, bv, dv, nv, rfl, c6, hav, hbv, hdv, hnv⟩
 refine ap _ c6 (fun _ => ?_)
 clear c6
 refine ah 4 rfl (wR 1 [(4, .o (iI iv.i.a)), (5, .o (.bool (aL (⟨c.params, c.regs, c.blocks⟩ : VFnT).regs iv.i.a))), (13, .o (iI iv.i.b)), (14, .o (.bool (aL (⟨c.params, c.regs, c.blocks⟩ : VFnT).regs iv.i.b))), (23, .o (iI iv.i.c)), (24, .o (.bool (aL (⟨c.params, c.regs, c.blocks⟩ : VFnT).regs iv.i.c))), (33, .o (iI iv.i.a)), (42, .o (iI iv.i.b)), (51, .o (iI iv.i.c)), (60, .o (iI iv.i.n))] 62 125 [] [(125, (.bool (((((((av && (!(aL (⟨c.params, c.regs, c.blocks⟩ : VFnT).regs iv.i.a))) || (bv && (!(aL (⟨c.params, c.regs, c.blocks⟩ : VFnT).regs iv.i.b)))) || (dv && (!(aL (⟨c.params, c.regs, c.blocks⟩ : VFnT).regs iv.i.c)))) || ((!av) && (iv.i.a != 0))) || ((!bv) && (iv.i.b != 0))) || ((!dv) && (iv.i.c != 0))) || ((!nv) && (iv.i.n != 0)))))] (vA (fun (E : av = true) => (ql 3 1 (HS.hc A (i := 2) rfl) rfl rfl)) (vA (fun (E : av = true) => (gj ex iv.i.a (⟨c.params, c.regs, c.blocks⟩ : VFnT) ay (by (try simp only [BS] at E); omega) (HS.hc A (i := 0) rfl) (by (try simp only [BS] at E); omega) (by (try simp only [BS] at E); omega))) (vA (fun (E : bv = true) (Z : (av && (!(aL (⟨c.params, c.regs, c.blocks⟩ : VFnT).regs iv.i.a))) = false) => (ql 3 2 (HS.hc A (i := 2) rfl) rfl rfl)) (vA (fun (E : bv = true) (Z : (av && (!(aL (⟨c.params, c.regs, c.blocks⟩ : VFnT).regs iv.i.a))) = false) => (gj ex iv.i.b (⟨c.params, c.regs, c.blocks⟩ : VFnT) ay (by (try simp only [BS] at E Z); omega) (HS.hc A (i := 0) rfl) (by (try simp only [BS] at E Z); omega) (by (try simp only [BS] at E Z); omega))) (vA (fun (E : dv = true) (Z : ((av && (!(aL (⟨c.params, c.regs, c.blocks⟩ : VFnT).regs iv.i.a))) || (bv && (!(aL (⟨c.params, c.regs, c.blocks⟩ : VFnT).regs iv.i.b)))) = false) => (ql 3 3 (HS.hc A (i := 2) rfl) rfl rfl)) (vA (fun (E : dv = true) (Z : ((av && (!(aL (⟨c.params, c.regs, c.blocks⟩ : VFnT).regs iv.i.a))) || (bv && (!(aL (⟨c.params, c.regs, c.blocks⟩ : VFnT).regs iv.i.b)))) = false) => (gj ex iv.i.c (⟨c.params, c.regs, c.blocks⟩ : VFnT) ay (by (try simp only [BS] at E Z); omega) (HS.hc A (i := 0) rfl) (by (try simp only [BS] at E Z); omega) (by (try simp only [BS] at E Z); omega))) (vA (fun (E : (!av) = true) (Z : (((av && (!(aL (⟨c.params, c.regs, c.blocks⟩ : VFnT).regs iv.i.a))) || (bv && (!(aL (⟨c.params, c.regs, c.blocks⟩ : VFnT).regs iv.i.b)))) || (dv && (!(aL (⟨c.params, c.regs, c.blocks⟩ : VFnT).regs iv.i.c)))) = false) => (ql 3 1 (HS.hc A (i := 2) rfl) rfl rfl)) (vA (fun (E : (!bv) = true) (Z : ((((av && (!(aL (⟨c.params, c.regs, c.blocks⟩ : VFnT).regs iv.i.a))) || (bv && (!(aL (⟨c.params, c.regs, c.blocks⟩ : VFnT).regs iv.i.b)))) || (dv && (!(aL (⟨c.params, c.regs, c.blocks⟩ : VFnT).regs iv.i.c)))) || ((!av) && (iv.i.a != 0))) = false) => (ql 3 2 (HS.hc A (i := 2) rfl) rfl rfl)) (vA (fun (E : (!dv) = true) (Z : (((((av && (!(aL (⟨c.params, c.regs, c.blocks⟩ : VFnT).regs iv.i.a))) || (bv && (!(aL (⟨c.params, c.regs, c.blocks⟩ : VFnT).regs iv.i.b)))) || (dv && (!(aL (⟨c.params, c.regs, c.blocks⟩ : VFnT).regs iv.i.c)))) || ((!av) && (iv.i.a != 0))) || ((!bv) && (iv.i.b != 0))) = false) => (ql 3 3 (HS.hc A (i := 2) rfl) rfl rfl)) (vA (fun (E : (!nv) = true) (Z : ((((((av && (!(aL (⟨c.params, c.regs, c.blocks⟩ : VFnT).regs iv.i.a))) || (bv && (!(aL (⟨c.params, c.regs, c.blocks⟩ : VFnT).regs iv.i.b)))) || (dv && (!(aL (⟨c.params, c.regs, c.blocks⟩ : VFnT).regs iv.i.c)))) || ((!av) && (iv.i.a != 0))) || ((!bv) && (iv.i.b != 0))) || ((!dv) && (iv.i.c != 0))) = false) => (ql 2 4 (HS.hc A (i := 2) rfl) rfl rfl)) trivial)))))))))) rfl fun _ => am 1 3 (v := (((((((av && (!(aL (⟨c.params, c.regs, c.blocks⟩ : VFnT).regs iv.i.a))) || (bv && (!(aL (⟨c.params, c.regs, c.blocks⟩ : VFnT).regs iv.i.b)))) || (dv && (!(aL (⟨c.params, c.regs, c.blocks⟩ : VFnT).regs iv.i.c)))) || ((!av) && (iv.i.a != 0))) || ((!bv) && (iv.i.b != 0))) || ((!dv) && (iv.i.c != 0))) || ((!nv) && (iv.i.n != 0)))) rfl rfl rfl rfl (fun al => ?_) (fun al => ?_))
 ·
  have ch := al
  try simp only [BS] at ch
  have d1 := al
  refine wT 1 [] 4 4 [] [(4, (.bool false))] rfl fun _ => ak ⟨.inr rfl, _, rfl, false, _, (fT (T) V), (HS.forget A), rfl, (by exact vin_bad3v hal h6 c8 hall hav hbv hdv hnv d1)⟩
 have ch := al
 try simp only [BS] at ch
 have hgood := vin_good3v (params := c.params) hal h6 c8 hall hav hbv hdv hnv al
 refine wU 3 [(1, .o (iI iv.i.op))] 126 127 [] [(127, (iI iv.i.op))] (ql 3 0 (HS.hc A (i := 2) rfl) rfl rfl) rfl fun _ => wT 1 [] 128 129 [] [(128, (.bool (iv.i.op == 33)))] rfl fun _ => am 1 1 (v := (iv.i.op == 33)) rfl rfl rfl rfl (fun bb => ?_) (fun bb => ?_)
 ·
  have ci := bb
  try simp only [BS] at ci
  refine wR 1 [(1, .o (iI iv.i.n)), (5, .o (iI iv.i.n))] 130 137 [4] [(4, (.bool ((decide ((-4194304 : Int) ≤ iv.i.n)) && (decide (iv.i.n < 4194304)))))] (vA (ql 2 4 (HS.hc A (i := 2) rfl) rfl rfl) (vA (fun (E : (decide ((-4194304 : Int) ≤ iv.i.n)) = true) => (ql 2 4 (HS.hc A (i := 2) rfl) rfl rfl)) trivial)) rfl fun _ => ak ⟨.inr rfl, _, rfl, ((decide ((-4194304 : Int) ≤ iv.i.n)) && (decide (iv.i.n < 4194304))), _, (fT (T) V), (HS.forget A), rfl, (by rw [hgood.1]; first | exact (dh hal hgood.2 (by omega) (by omega) (by omega) (by omega)).symm | (unfold gw; (repeat' split) <;> first | omega | rfl | (rw [a0m] <;> simp)))⟩
 have ci := bb
 try simp only [BS] at ci
 refine wT 1 [] 138 139 [] [(138, (.bool (iv.i.op == 6)))] rfl fun _ => am 1 2 (v := (iv.i.op == 6)) rfl rfl rfl rfl (fun be => ?_) (fun be => ?_)
 ·
  have co := be
  try simp only [BS] at co
  refine wR 1 [(1, .o (iI iv.i.n)), (5, .o (iI iv.i.n))] 140 147 [4] [(4, (.bool ((decide ((0 : Int) ≤ iv.i.n)) && (decide (iv.i.n < 8)))))] (vA (ql 2 4 (HS.hc A (i := 2) rfl) rfl rfl) (vA (fun (E : (decide ((0 : Int) ≤ iv.i.n)) = true) => (ql 2 4 (HS.hc A (i := 2) rfl) rfl rfl)) trivial)) rfl fun _ => ak ⟨.inr rfl, _, rfl, ((decide ((0 : Int) ≤ iv.i.n)) && (decide (iv.i.n < 8))), _, (fT (T) V), (HS.forget A), rfl, (by rw [hgood.1]; first | exact (dh hal hgood.2 (by omega) (by omega) (by omega) (by omega)).symm | (unfold gw; (repeat' split) <;> first | omega | rfl | (rw [a0m] <;> simp)))⟩
 have co := be
 try simp only [BS] at co
 refine wT 1 [] 148 149 [] [(148, (.bool (iv.i.op == 34)))] rfl fun _ => am 1 0 (v := (iv.i.op == 34)) rfl rfl rfl rfl (fun aw => ?_) (fun aw => ?_)
 ·
  have c0 := aw
  try simp only [BS] at c0
  refine bu 1 (v := (iv.i.op == 34)) rfl aw rfl rfl (wR 1 [(1, .o (iI iv.i.n)), (5, .o (iI iv.i.n))] 151 158 [4] [(4, (.bool ((decide ((0 : Int) ≤ iv.i.n)) && (decide (iv.i.n < 4)))))] (vA (ql 2 4 (HS.hc A (i := 2) rfl) rfl rfl) (vA (fun (E : (decide ((0 : Int) ≤ iv.i.n)) = true) => (ql 2 4 (HS.hc A (i := 2) rfl) rfl rfl)) trivial)) rfl fun _ => ak ⟨.inr rfl, _, rfl, ((decide ((0 : Int) ≤ iv.i.n)) && (decide (iv.i.n < 4))), _, (fT (T) V), (HS.forget A), rfl, (by rw [hgood.1]; first | exact (dh hal hgood.2 (by omega) (by omega) (by omega) (by omega)).symm | (unfold gw; (repeat' split) <;> first | omega | rfl | (rw [a0m] <;> simp)))⟩)
 have c0 := aw
 try simp only [BS] at c0
 refine wT 1 [] 148 150 [] [(148, (.bool (iv.i.op == 35)))] rfl fun _ => am 1 1 (v := (iv.i.op == 35)) rfl rfl rfl rfl (fun bk => ?_) (fun bk => ?_)
 ·
  have c3 := bk
  try simp only [BS] at c3
  refine wR 1 [(1, .o (iI iv.i.n)), (5, .o (iI iv.i.n))] 151 158 [4] [(4, (.bool ((decide ((0 : Int) ≤ iv.i.n)) && (decide (iv.i.n < 4)))))] (vA (ql 2 4 (HS.hc A (i := 2) rfl) rfl rfl) (vA (fun (E : (decide ((0 : Int) ≤ iv.i.n)) = true) => (ql 2 4 (HS.hc A (i := 2) rfl) rfl rfl)) trivial)) rfl fun _ => ak ⟨.inr rfl, _, rfl, ((decide ((0 : Int) ≤ iv.i.n)) && (decide (iv.i.n < 4))), _, (fT (T) V), (HS.forget A), rfl, (by rw [hgood.1]; first | exact (dh hal hgood.2 (by omega) (by omega) (by omega) (by omega)).symm | (unfold gw; (repeat' split) <;> first | omega | rfl | (rw [a0m] <;> simp)))⟩
 have c3 := bk
 try simp only [BS] at c3
 refine wT 1 [] 159 160 [] [(159, (.bool (iv.i.op == 38)))] rfl fun _ => am 1 3 (v := (iv.i.op == 38)) rfl rfl rfl rfl (fun bl => ?_) (fun bl => ?_)
 ·
  have c4 := bl
  try simp only [BS] at c4
  refine wR 1 [(1, .o (iI iv.i.n)), (5, .o (iI iv.i.n)), (7, .o (iI c.params))] 161 170 [4] [(4, (.bool ((decide ((0 : Int) ≤ iv.i.n)) && (decide (iv.i.n < c.params)))))] (vA (ql 2 4 (HS.hc A (i := 2) rfl) rfl rfl) (vA (fun (E : (decide ((0 : Int) ≤ iv.i.n)) = true) => (ql 2 4 (HS.hc A (i := 2) rfl) rfl rfl)) (vA (fun (E : (decide ((0 : Int) ≤ iv.i.n)) = true) => (ql 3 0 (HS.hc A (i := 0) rfl) rfl rfl)) trivial))) rfl fun _ => ak ⟨.inr rfl, _, rfl, ((decide ((0 : Int) ≤ iv.i.n)) && (decide (iv.i.n < c.params))), _, (fT (T) V), (HS.forget A), rfl, (by rw [hgood.1]; first | exact (dh hal hgood.2 (by omega) (by omega) (by omega) (by omega)).symm | (unfold gw; (repeat' split) <;> first | omega | rfl | (rw [a0m] <;> simp)))⟩
 have c4 := bl
 try simp only [BS] at c4
 refine wT 1 [] 4 4 [] [(4, (.bool true))] rfl fun _ => ak ⟨.inr rfl, _, rfl, true, _, (fT (T) V), (HS.forget A), rfl, (by rw [hgood.1]; first | exact (dh hal hgood.2 (by omega) (by omega) (by omega) (by omega)).symm | (unfold gw; (repeat' split) <;> first | omega | rfl | (rw [a0m] <;> simp)))⟩
set_option maxHeartbeats 1000000 in
theorem rinstr_c {T : Option Addr} {U : Nat} (iv : VInT) {al : Option Addr} {ar : Nat} (c : VFnT) (hs : HS (.of H []) F H [] R) (c7 : in64 iv.i.op) (c8 : in64 iv.i.a) (c9 : in64 iv.i.b) (dd : in64 iv.i.c) (dk : in64 iv.i.n) (Z : SR F (.slice T iv.args.length U) iv.args) (ds : in64 c.params) (dt : in64 c.regs) (dv : SR F (.slice al c.blocks.length ar) c.blocks) (hT : TB 37 tabC F) : kKt ex 99 [(.agg ⟨[(iI iv.i.op), (iI iv.i.a), (iI iv.i.b), (iI iv.i.c), (iI iv.i.n), (.slice T iv.args.length U)]⟩), (.agg ⟨[(iI c.params), (iI c.regs), (.slice al c.blocks.length ar)]⟩)] H fun v H' => ∃ (r : Bool) (F' : Fz), Fz.le F F' ∧ HS (.of H []) F' H' [] R ∧ v = .bool r ∧ r = eJ c.params c.regs iv := by
 refine aH Tryd.func99 rfl rfl (ah 1 rfl (aa (aG (bG hs rfl rfl) rfl rfl ?_)))
 rintro _ H2 _ ⟨b1, rfl, (c5 : HS _ _ _ [[(b1, .cells [(iI iv.i.op), (iI iv.i.a), (iI iv.i.b), (iI iv.i.c), (iI iv.i.n), (.slice T iv.args.length U)] none false)]] _), _⟩
 refine aG (bG c5 rfl rfl) rfl rfl ?_
 rintro _ H4 _ ⟨b3, rfl, (b7 : HS _ _ _ [_, [(b3, .cells [(iI c.params), (iI c.regs), (.slice al c.blocks.length ar)] none false)]] _), _⟩
 let b9 : Value := (.agg ⟨[(iI iv.i.op), (iI iv.i.a), (iI iv.i.b), (iI iv.i.c), (iI iv.i.n)]⟩)
 refine wa (.bool false) rfl rfl rfl (ae 2 rfl (aa (wUo 2 0 [(1, .o b9)] 10 11 [] [(11, b9)] (qn 50 0 5 (HS.hc b7 (i := 0) rfl) rfl rfl rfl rfl) rfl fun _ => aG (bp b7 rfl) rfl rfl ?_)))
 rintro _ H7 _ ⟨b6, rfl, (c6 : HS _ _ _ [_, _, [(b6, .cells [(iI 0), (iI 0), (iI 0), (iI 0), (iI 0)] none false)]] _), _⟩
 refine aN (aI (q := 2) c6 rfl rfl rfl rfl rfl rfl rfl rfl rfl) rfl ?_
 rintro _ H8 _ ⟨(ag : HS _ _ _ [_, _, [(b6, .cells [(iI iv.i.op), (iI iv.i.a), (iI iv.i.b), (iI iv.i.c), (iI iv.i.n)] none false)]] _), _⟩
 refine ae 3 rfl (wR 1 [(1, .o (iI iv.i.op)), (2, .o (.bool (alV iv.i.op))), (6, .o (iI iv.i.op)), (10, .o (.slice T iv.args.length U)), (17, .o (.slice T iv.args.length U))] 12 32 [] [(32, (.bool (((!(alV iv.i.op)) || ((iv.i.op != 6) && (decide ((0 : Int) < (iv.args.length : Int))))) || (decide ((6 : Int) < (iv.args.length : Int))))))] (vA (ql 3 0 (HS.hc ag (i := 2) rfl) rfl rfl) (vA (m1.ralw_c_q ex iv.i.op H8) (vA (fun (E : (!(alV iv.i.op)) = false) => (ql 3 0 (HS.hc ag (i := 2) rfl) rfl rfl)) (vA (fun (E : (iv.i.op != 6) = true) (g2 : (!(alV iv.i.op)) = false) => (ql 25 5 (HS.hc ag (i := 0) rfl) rfl rfl)) (vA (fun (E : ((!(alV iv.i.op)) || ((iv.i.op != 6) && (decide ((0 : Int) < (iv.args.length : Int))))) = false) => (ql 25 5 (HS.hc ag (i := 0) rfl) rfl rfl)) trivial))))) rfl fun _ => am 1 3 (v := (((!(alV iv.i.op)) || ((iv.i.op != 6) && (decide ((0 : Int) < (iv.args.length : Int))))) || (decide ((6 : Int) < (iv.args.length : Int))))) rfl rfl rfl rfl (fun aw => ?_) (fun aw => ?_))
 ·
  have av := aw
  try simp only [BS] at av
  have hbad := av
  refine wT 1 [] 4 4 [] [(4, (.bool false))] rfl fun _ => ak ⟨.inr rfl, _, rfl, false, _, fR, (HS.forget ag), rfl, (by exact vin_bad2 hbad)⟩
 have av := aw
 try simp only [BS] at av
 have hal : alV iv.i.op = true := (av).1.1
 have h6 : iv.i.op = 6 ∨ iv.args.length = 0 := by omega
 have b5 : iv.args.length ≤ 6 := by omega
 refine wT 2 [] 1 0 [6] [(6, (iI 0))] rfl fun _ => aj (fun (mm : Nat) f H' => ∃ (k : Nat) (F' : Fz), Fz.le F F' ∧ HS (Base.of H []) F' H' [[(b1, .cells [(iI iv.i.op), (iI iv.i.a), (iI iv.i.b), (iI iv.i.c), (iI iv.i.n), (.slice T iv.args.length U)] none false)], [(b3, .cells [(iI c.params), (iI c.regs), (.slice al c.blocks.length ar)] none false)], [(b6, .cells [(iI iv.i.op), (iI iv.i.a), (iI iv.i.b), (iI iv.i.c), (iI iv.i.n)] none false)]] R ∧ aD f [(2, (.pointer (some ⟨b1, 0, none⟩))), (3, (.pointer (some ⟨b3, 0, none⟩))), (5, (.pointer (some ⟨b6, 0, none⟩))), (6, (iI (k : Int)))] ∧ mm = iv.args.length - k ∧ (k ≤ iv.args.length) ∧ (∀ j, j < k → aL c.regs (iv.args.getD j default) = true)) _ ⟨0, _, fR, ag, ⟨rfl, rfl, rfl, rfl, trivial⟩, rfl, (by omega), (by exact ef)⟩ ?_
 rintro d1 es em ⟨k, d2, J, N, b2, rfl, hk, ha⟩ ci
 refine ap _ b2 (fun _ => ?_)
 clear b2
 replace hT := hT.mono J
 replace Z := Z.mono J
 refine ah 2 rfl (wU 1 [(2, .o (.slice T iv.args.length U))] 33 37 [] [(37, (.bool (decide ((k : Int) < (iv.args.length : Int)))))] (ql 25 5 (HS.hc N (i := 0) rfl) rfl rfl) rfl fun _ => am 4 5 (v := (decide ((k : Int) < (iv.args.length : Int)))) rfl rfl rfl rfl (fun ax => ?_) (fun ax => ?_))
 ·
  have a7 := ax
  try simp only [BS] at a7
  obtain ⟨dn, a5⟩ := Sv.view (SR.sv Z N)
  have et := fI (a5 k)
  refine wRD 1 [(1, .o (.slice T iv.args.length U)), (4, .o (iI (iv.args.getD k 0))), (8, .o (.slice T iv.args.length U)), (11, .o (iI (iv.args.getD k 0))), (13, .o (iI c.regs))] 40 55 [] [(55, (.bool ((decide ((iv.args.getD k 0) < 0)) || (decide (c.regs ≤ (iv.args.getD k 0))))))] (vA (ql 25 5 (hc0 (HS.hc N (i := 0) rfl)) rfl rfl) (vA (Sv.ix (j := (k : Int)) (SR.sv Z N) (by omega) (by omega)) (vA (ql 3 0 (hc0 (vI (a5 k) (by omega))) rfl rfl) (vA (fun (E : (decide ((iv.args.getD k 0) < 0)) = false) => (ql 25 5 (hc0 (HS.hc N (i := 0) rfl)) rfl rfl)) (vA (fun (E : (decide ((iv.args.getD k 0) < 0)) = false) => (Sv.ix (j := (k : Int)) (SR.sv Z N) (by (try simp only [BS] at E); omega) (by (try simp only [BS] at E); omega))) (vA (fun (E : (decide ((iv.args.getD k 0) < 0)) = false) => (ql 3 0 (hc0 (vI (a5 k) (by (try simp only [BS] at E); omega))) rfl rfl)) (vA (fun (E : (decide ((iv.args.getD k 0) < 0)) = false) => (ql 3 1 (hc0 (HS.hc N (i := 1) rfl)) rfl rfl)) trivial))))))) rfl rfl fun _ => am 1 2 (v := ((decide ((iv.args.getD k 0) < 0)) || (decide (c.regs ≤ (iv.args.getD k 0))))) rfl rfl rfl rfl (fun ay => ?_) (fun ay => ?_)
  ·
   have a8 := ay
   try simp only [BS] at a8
   refine wT 1 [] 4 4 [] [(4, (.bool false))] rfl fun _ => ak ⟨.inr rfl, _, rfl, false, _, (J), (HS.forget N), rfl, (by exact vin_no (dF (k := k) (by omega) (cW.2 (show ¬ (0 ≤ iv.args.getD k 0 ∧ iv.args.getD k 0 < c.regs) by omega))))⟩
  have a8 := ay
  try simp only [BS] at a8
  refine wU 1 [] 38 39 [6] [(6, (iI ((k : Int) + 1)))] (vi (n := (k : Int) + 1) (by omega)) rfl fun _ => ci _ _ _ ?_ ⟨k + 1, _, (J), N, ⟨rfl, rfl, rfl, rfl, trivial⟩, rfl, (by omega), (by exact cR ha (aX.2 (show 0 ≤ iv.args.getD k 0 ∧ iv.args.getD k 0 < c.regs by omega)))⟩
  omega
 have a7 := ax
 try simp only [BS] at a7
 have hall := e7 ha (by omega)
 refine aa (wUo 2 0 [(1, .o (iI iv.i.op))] 56 57 [] [(57, (iI iv.i.op))] (ql 3 0 (HS.hc N (i := 2) rfl) rfl rfl) rfl fun _ => aA (aq rfl rfl rfl) rfl rfl (rinfo_c ex iv.i.op (HS.call N) (by omega) hT) ?_)
 rintro _ a6 ⟨ez, ea, V, A, rfl, co, c0, rfl⟩
 replace A : HS _ _ _ [_, _, _] _ := HS.back N rfl A
 refine wTo 2 3 [] 59 59 [7] [(7, (iI (aJ iv.i.op).form))] rfl fun _ => ae 2 rfl (wT 2 [] 60 61 [8] [(8, (.bool ((aJ iv.i.op).form != 1)))] rfl fun _ => wT 3 [] 62 71 [9] [(9, (.bool ((((aJ iv.i.op).form == 3) || ((aJ iv.i.op).form == 4)) || ((aJ iv.i.op).form == 7))))] rfl fun _ => wR 1 [(2, .o (iI iv.i.a)), (4, .o (iI c.regs)), (5, .o (.bool (dq ((aJ iv.i.op).form != 1) iv.i.a c.regs))), (10, .o (iI iv.i.b)), (12, .o (iI c.regs)), (13, .o (.bool (dq ((((aJ iv.i.op).form == 3) || ((aJ iv.i.op).form == 4)) || ((aJ iv.i.op).form == 7)) iv.i.b c.regs))), (20, .o (iI iv.i.c)), (22, .o (iI c.regs)), (23, .o (.bool (dq ((aJ iv.i.op).form == 4) iv.i.c c.regs)))] 72 97 [] [(97, (.bool (((!(dq ((aJ iv.i.op).form != 1) iv.i.a c.regs)) || (!(dq ((((aJ iv.i.op).form == 3) || ((aJ iv.i.op).form == 4)) || ((aJ iv.i.op).form == 7)) iv.i.b c.regs))) || (!(dq ((aJ iv.i.op).form == 4) iv.i.c c.regs)))))] (vA (ql 3 1 (HS.hc A (i := 2) rfl) rfl rfl) (vA (ql 3 1 (HS.hc A (i := 1) rfl) rfl rfl) (vA (eP ex ((aJ iv.i.op).form != 1) iv.i.a c.regs a6 (by omega) (by omega)) (vA (fun (E : (!(dq ((aJ iv.i.op).form != 1) iv.i.a c.regs)) = false) => (ql 3 2 (HS.hc A (i := 2) rfl) rfl rfl)) (vA (fun (E : (!(dq ((aJ iv.i.op).form != 1) iv.i.a c.regs)) = false) => (ql 3 1 (HS.hc A (i := 1) rfl) rfl rfl)) (vA (fun (E : (!(dq ((aJ iv.i.op).form != 1) iv.i.a c.regs)) = false) => (eP ex ((((aJ iv.i.op).form == 3) || ((aJ iv.i.op).form == 4)) || ((aJ iv.i.op).form == 7)) iv.i.b c.regs a6 (by (try simp only [BS] at E); omega) (by (try simp only [BS] at E); omega))) (vA (fun (E : ((!(dq ((aJ iv.i.op).form != 1) iv.i.a c.regs)) || (!(dq ((((aJ iv.i.op).form == 3) || ((aJ iv.i.op).form == 4)) || ((aJ iv.i.op).form == 7)) iv.i.b c.regs))) = false) => (ql 3 3 (HS.hc A (i := 2) rfl) rfl rfl)) (vA (fun (E : ((!(dq ((aJ iv.i.op).form != 1) iv.i.a c.regs)) || (!(dq ((((aJ iv.i.op).form == 3) || ((aJ iv.i.op).form == 4)) || ((aJ iv.i.op).form == 7)) iv.i.b c.regs))) = false) => (ql 3 1 (HS.hc A (i := 1) rfl) rfl rfl)) (vA (fun (E : ((!(dq ((aJ iv.i.op).form != 1) iv.i.a c.regs)) || (!(dq ((((aJ iv.i.op).form == 3) || ((aJ iv.i.op).form == 4)) || ((aJ iv.i.op).form == 7)) iv.i.b c.regs))) = false) => (eP ex ((aJ iv.i.op).form == 4) iv.i.c c.regs a6 (by (try simp only [BS] at E); omega) (by (try simp only [BS] at E); omega))) trivial))))))))) rfl fun _ => am 1 3 (v := (((!(dq ((aJ iv.i.op).form != 1) iv.i.a c.regs)) || (!(dq ((((aJ iv.i.op).form == 3) || ((aJ iv.i.op).form == 4)) || ((aJ iv.i.op).form == 7)) iv.i.b c.regs))) || (!(dq ((aJ iv.i.op).form == 4) iv.i.c c.regs)))) rfl rfl rfl rfl (fun ad => ?_) (fun ad => ?_))
 ·
  have a9 := ad
  try simp only [BS] at a9
  have c4 := ad
  refine wT 1 [] 4 4 [] [(4, (.bool false))] rfl fun _ => ak ⟨.inr rfl, _, rfl, false, _, (fT (J) V), (HS.forget A), rfl, (by exact vin_rbad hal h6 b5 hall c4)⟩
 have a9 := ad
 try simp only [BS] at a9
 have hgood := vin_rgood (params := c.params) hal h6 b5 hall ad
 refine wU 3 [(1, .o (iI iv.i.op))] 98 99 [] [(99, (iI iv.i.op))] (ql 3 0 (HS.hc A (i := 2) rfl) rfl rfl) rfl fun _ => wT 1 [] 100 101 [] [(100, (.bool (iv.i.op == 13)))] rfl fun _ => am 1 1 (v := (iv.i.op == 13)) rfl rfl rfl rfl (fun a0 => ?_) (fun a0 => ?_)
 ·
  have bb := a0
  try simp only [BS] at bb
  refine wT 1 [] 4 4 [] [(4, (.bool true))] rfl fun _ => ak ⟨.inr rfl, _, rfl, true, _, (fT (J) V), (HS.forget A), rfl, (by rw [hgood] <;> (first | exact (dh hal hgood.2 (by omega) (by omega) (by omega) (by omega)).symm | (unfold gw; (repeat' split) <;> first | omega | rfl | (rw [a0m] <;> simp))))⟩
 have bb := a0
 try simp only [BS] at bb
 refine wT 1 [] 102 103 [] [(102, (.bool (iv.i.op == 33)))] rfl fun _ => am 1 1 (v := (iv.i.op == 33)) rfl rfl rfl rfl (fun a1 => ?_) (fun a1 => ?_)
 ·
  have be := a1
  try simp only [BS] at be
  refine wR 1 [(1, .o (iI iv.i.n)), (5, .o (iI iv.i.n))] 104 111 [4] [(4, (.bool ((decide ((-4194304 : Int) ≤ iv.i.n)) && (decide (iv.i.n < 4194304)))))] (vA (ql 2 4 (HS.hc A (i := 2) rfl) rfl rfl) (vA (fun (E : (decide ((-4194304 : Int) ≤ iv.i.n)) = true) => (ql 2 4 (HS.hc A (i := 2) rfl) rfl rfl)) trivial)) rfl fun _ => ak ⟨.inr rfl, _, rfl, ((decide ((-4194304 : Int) ≤ iv.i.n)) && (decide (iv.i.n < 4194304))), _, (fT (J) V), (HS.forget A), rfl, (by rw [hgood] <;> (first | exact (dh hal hgood.2 (by omega) (by omega) (by omega) (by omega)).symm | (unfold gw; (repeat' split) <;> first | omega | rfl | (rw [a0m] <;> simp))))⟩
 have be := a1
 try simp only [BS] at be
 refine wT 1 [] 112 113 [] [(112, (.bool (iv.i.op == 6)))] rfl fun _ => am 1 2 (v := (iv.i.op == 6)) rfl rfl rfl rfl (fun a2 => ?_) (fun a2 => ?_)
 ·
  have bk := a2
  try simp only [BS] at bk
  refine wR 1 [(1, .o (iI iv.i.n)), (5, .o (iI iv.i.n))] 114 121 [4] [(4, (.bool ((decide ((0 : Int) ≤ iv.i.n)) && (decide (iv.i.n < 8)))))] (vA (ql 2 4 (HS.hc A (i := 2) rfl) rfl rfl) (vA (fun (E : (decide ((0 : Int) ≤ iv.i.n)) = true) => (ql 2 4 (HS.hc A (i := 2) rfl) rfl rfl)) trivial)) rfl fun _ => ak ⟨.inr rfl, _, rfl, ((decide ((0 : Int) ≤ iv.i.n)) && (decide (iv.i.n < 8))), _, (fT (J) V), (HS.forget A), rfl, (by rw [hgood] <;> (first | exact (dh hal hgood.2 (by omega) (by omega) (by omega) (by omega)).symm | (unfold gw; (repeat' split) <;> first | omega | rfl | (rw [a0m] <;> simp))))⟩
 have bk := a2
 try simp only [BS] at bk
 refine wT 1 [] 122 123 [] [(122, (.bool (iv.i.op == 34)))] rfl fun _ => am 1 0 (v := (iv.i.op == 34)) rfl rfl rfl rfl (fun an => ?_) (fun an => ?_)
 ·
  have bl := an
  try simp only [BS] at bl
  refine bu 1 (v := (iv.i.op == 34)) rfl an rfl rfl (wR 1 [(1, .o (iI iv.i.n)), (5, .o (iI iv.i.n))] 125 132 [4] [(4, (.bool ((decide ((0 : Int) ≤ iv.i.n)) && (decide (iv.i.n < 4)))))] (vA (ql 2 4 (HS.hc A (i := 2) rfl) rfl rfl) (vA (fun (E : (decide ((0 : Int) ≤ iv.i.n)) = true) => (ql 2 4 (HS.hc A (i := 2) rfl) rfl rfl)) trivial)) rfl fun _ => ak ⟨.inr rfl, _, rfl, ((decide ((0 : Int) ≤ iv.i.n)) && (decide (iv.i.n < 4))), _, (fT (J) V), (HS.forget A), rfl, (by rw [hgood] <;> (first | exact (dh hal hgood.2 (by omega) (by omega) (by omega) (by omega)).symm | (unfold gw; (repeat' split) <;> first | omega | rfl | (rw [a0m] <;> simp))))⟩)
 have bl := an
 try simp only [BS] at bl
 refine wT 1 [] 122 124 [] [(122, (.bool (iv.i.op == 35)))] rfl fun _ => am 1 1 (v := (iv.i.op == 35)) rfl rfl rfl rfl (fun a3 => ?_) (fun a3 => ?_)
 ·
  have bz := a3
  try simp only [BS] at bz
  refine wR 1 [(1, .o (iI iv.i.n)), (5, .o (iI iv.i.n))] 125 132 [4] [(4, (.bool ((decide ((0 : Int) ≤ iv.i.n)) && (decide (iv.i.n < 4)))))] (vA (ql 2 4 (HS.hc A (i := 2) rfl) rfl rfl) (vA (fun (E : (decide ((0 : Int) ≤ iv.i.n)) = true) => (ql 2 4 (HS.hc A (i := 2) rfl) rfl rfl)) trivial)) rfl fun _ => ak ⟨.inr rfl, _, rfl, ((decide ((0 : Int) ≤ iv.i.n)) && (decide (iv.i.n < 4))), _, (fT (J) V), (HS.forget A), rfl, (by rw [hgood] <;> (first | exact (dh hal hgood.2 (by omega) (by omega) (by omega) (by omega)).symm | (unfold gw; (repeat' split) <;> first | omega | rfl | (rw [a0m] <;> simp))))⟩
 have bz := a3
 try simp only [BS] at bz
 refine wT 1 [] 133 134 [] [(133, (.bool (iv.i.op == 38)))] rfl fun _ => am 1 3 (v := (iv.i.op == 38)) rfl rfl rfl rfl (fun a4 => ?_) (fun a4 => ?_)
 ·
  have b0 := a4
  try simp only [BS] at b0
  refine wR 1 [(1, .o (iI iv.i.n)), (5, .o (iI iv.i.n)), (7, .o (iI c.params))] 135 144 [4] [(4, (.bool ((decide ((0 : Int) ≤ iv.i.n)) && (decide (iv.i.n < c.params)))))] (vA (ql 2 4 (HS.hc A (i := 2) rfl) rfl rfl) (vA (fun (E : (decide ((0 : Int) ≤ iv.i.n)) = true) => (ql 2 4 (HS.hc A (i := 2) rfl) rfl rfl)) (vA (fun (E : (decide ((0 : Int) ≤ iv.i.n)) = true) => (ql 3 0 (HS.hc A (i := 1) rfl) rfl rfl)) trivial))) rfl fun _ => ak ⟨.inr rfl, _, rfl, ((decide ((0 : Int) ≤ iv.i.n)) && (decide (iv.i.n < c.params))), _, (fT (J) V), (HS.forget A), rfl, (by rw [hgood] <;> (first | exact (dh hal hgood.2 (by omega) (by omega) (by omega) (by omega)).symm | (unfold gw; (repeat' split) <;> first | omega | rfl | (rw [a0m] <;> simp))))⟩
 have b0 := a4
 try simp only [BS] at b0
 refine wU 1 [(1, .o (iI iv.i.n))] 145 147 [4] [(4, (.bool (iv.i.n == 0)))] (ql 2 4 (HS.hc A (i := 2) rfl) rfl rfl) rfl fun _ => ak ⟨.inr rfl, _, rfl, (iv.i.n == 0), _, (fT (J) V), (HS.forget A), rfl, (by rw [hgood] <;> (first | exact (dh hal hgood.2 (by omega) (by omega) (by omega) (by omega)).symm | (unfold gw; (repeat' split) <;> first | omega | rfl | (rw [a0m] <;> simp))))⟩
theorem rEnd_c {T : Option Addr} {ad : Nat} (b : BlkT) {J : Option Addr} {N : Nat} (c : VFnT) (hs : HS (.of H []) F H [] R) (a0 : SR F (.slice T b.ins.length ad) b.ins) (a1 : in64 b.fin) (a2 : in64 b.reg) (a3 : in64 b.tgt) (a4 : in64 b.els) (a5 : in64 c.params) (a6 : in64 c.regs) (a7 : SR F (.slice J c.blocks.length N) c.blocks) (hT : TB 37 tabC F) : kKt ex 98 [(.agg ⟨[(.slice T b.ins.length ad), (iI b.fin), (iI b.reg), (iI b.tgt), (iI b.els)]⟩), (.agg ⟨[(iI c.params), (iI c.regs), (.slice J c.blocks.length N)]⟩)] H fun v H' => ∃ (r : Bool) (F' : Fz), Fz.le F F' ∧ HS (.of H []) F' H' [] R ∧ v = .bool r ∧ r = vendV (c.blocks.length : Int) c.regs b := by
 refine aH Tryd.func98 rfl rfl (ah 1 rfl (aa (aG (bG hs rfl rfl) rfl rfl ?_)))
 rintro _ H2 _ ⟨b1, rfl, (aw : HS _ _ _ [[(b1, .cells [(.slice T b.ins.length ad), (iI b.fin), (iI b.reg), (iI b.tgt), (iI b.els)] none false)]] _), _⟩
 refine aG (bG aw rfl rfl) rfl rfl ?_
 rintro _ H4 _ ⟨b3, rfl, (A : HS _ _ _ [_, [(b3, .cells [(iI c.params), (iI c.regs), (.slice J c.blocks.length N)] none false)]] _), _⟩
 refine wa (.bool false) rfl rfl rfl (ae 2 rfl (wU 2 [(1, .o (.slice J c.blocks.length N))] 9 11 [5] [(5, (iI (c.blocks.length : Int)))] (ql 22 2 (HS.hc A (i := 1) rfl) rfl rfl) rfl fun _ => wRD 3 [(1, .o (iI b.tgt)), (5, .o (iI b.tgt)), (10, .o (iI b.els)), (14, .o (iI b.els)), (19, .o (iI b.reg)), (23, .o (iI b.reg)), (25, .o (iI c.regs))] 12 39 [6, 7, 8] [(6, (.bool ((decide ((0 : Int) ≤ b.tgt)) && (decide (b.tgt < (c.blocks.length : Int)))))), (7, (.bool ((decide ((0 : Int) ≤ b.els)) && (decide (b.els < (c.blocks.length : Int)))))), (8, (.bool ((decide ((0 : Int) ≤ b.reg)) && (decide (b.reg < c.regs)))))] (vA (ql 3 3 (hc0 (HS.hc A (i := 0) rfl)) rfl rfl) (vA (fun (E : (decide ((0 : Int) ≤ b.tgt)) = true) => (ql 3 3 (hc0 (HS.hc A (i := 0) rfl)) rfl rfl)) (vA (ql 3 4 (hc0 (HS.hc A (i := 0) rfl)) rfl rfl) (vA (fun (E : (decide ((0 : Int) ≤ b.els)) = true) => (ql 3 4 (hc0 (HS.hc A (i := 0) rfl)) rfl rfl)) (vA (ql 3 2 (hc0 (HS.hc A (i := 0) rfl)) rfl rfl) (vA (fun (E : (decide ((0 : Int) ≤ b.reg)) = true) => (ql 3 2 (hc0 (HS.hc A (i := 0) rfl)) rfl rfl)) (vA (fun (E : (decide ((0 : Int) ≤ b.reg)) = true) => (ql 3 1 (hc0 (HS.hc A (i := 1) rfl)) rfl rfl)) trivial))))))) rfl rfl fun _ => wU 3 [(1, .o (iI b.fin))] 40 41 [] [(41, (iI b.fin))] (ql 3 1 (HS.hc A (i := 0) rfl) rfl rfl) rfl fun _ => wT 1 [] 42 43 [] [(42, (.bool (b.fin == 1)))] rfl fun _ => ?_))
 refine am 1 1 (v := (b.fin == 1)) rfl rfl rfl rfl (fun ar => ?_) (fun ar => ?_)
 ·
  have c9 := ar
  try simp only [BS] at c9
  refine wR 1 [(3, .o (iI b.els)), (8, .o (iI b.reg))] 44 54 [4] [(4, (.bool ((((decide ((0 : Int) ≤ b.tgt)) && (decide (b.tgt < (c.blocks.length : Int)))) && (b.els == 0)) && (b.reg == 0))))] (vA (fun (E : ((decide ((0 : Int) ≤ b.tgt)) && (decide (b.tgt < (c.blocks.length : Int)))) = true) => (ql 3 4 (HS.hc A (i := 0) rfl) rfl rfl)) (vA (fun (E : (((decide ((0 : Int) ≤ b.tgt)) && (decide (b.tgt < (c.blocks.length : Int)))) && (b.els == 0)) = true) => (ql 3 2 (HS.hc A (i := 0) rfl) rfl rfl)) trivial)) rfl fun _ => ak ⟨.inr rfl, _, rfl, ((((decide ((0 : Int) ≤ b.tgt)) && (decide (b.tgt < (c.blocks.length : Int)))) && (b.els == 0)) && (b.reg == 0)), _, fR, (HS.forget A), rfl, (by refine a0m.2 (Iff.trans ?_ bN.symm); first | omega | (simp [aX] <;> omega))⟩
 have c9 := ar
 try simp only [BS] at c9
 refine wT 1 [] 55 56 [] [(55, (.bool (b.fin == 2)))] rfl fun _ => am 1 1 (v := (b.fin == 2)) rfl rfl rfl rfl (fun U => ?_) (fun U => ?_)
 ·
  have ag := U
  try simp only [BS] at ag
  refine wT 1 [] 57 63 [4] [(4, (.bool ((((decide ((0 : Int) ≤ b.tgt)) && (decide (b.tgt < (c.blocks.length : Int)))) && ((decide ((0 : Int) ≤ b.els)) && (decide (b.els < (c.blocks.length : Int))))) && ((decide ((0 : Int) ≤ b.reg)) && (decide (b.reg < c.regs))))))] rfl fun _ => ak ⟨.inr rfl, _, rfl, ((((decide ((0 : Int) ≤ b.tgt)) && (decide (b.tgt < (c.blocks.length : Int)))) && ((decide ((0 : Int) ≤ b.els)) && (decide (b.els < (c.blocks.length : Int))))) && ((decide ((0 : Int) ≤ b.reg)) && (decide (b.reg < c.regs)))), _, fR, (HS.forget A), rfl, (by refine a0m.2 (Iff.trans ?_ bN.symm); first | omega | (simp [aX] <;> omega))⟩
 have ag := U
 try simp only [BS] at ag
 refine wT 1 [] 64 65 [] [(64, (.bool (b.fin == 3)))] rfl fun _ => am 1 1 (v := (b.fin == 3)) rfl rfl rfl rfl (fun V => ?_) (fun V => ?_)
 ·
  have al := V
  try simp only [BS] at al
  refine wR 1 [(3, .o (iI b.tgt)), (8, .o (iI b.els))] 66 76 [4] [(4, (.bool ((((decide ((0 : Int) ≤ b.reg)) && (decide (b.reg < c.regs))) && (b.tgt == 0)) && (b.els == 0))))] (vA (fun (E : ((decide ((0 : Int) ≤ b.reg)) && (decide (b.reg < c.regs))) = true) => (ql 3 3 (HS.hc A (i := 0) rfl) rfl rfl)) (vA (fun (E : (((decide ((0 : Int) ≤ b.reg)) && (decide (b.reg < c.regs))) && (b.tgt == 0)) = true) => (ql 3 4 (HS.hc A (i := 0) rfl) rfl rfl)) trivial)) rfl fun _ => ak ⟨.inr rfl, _, rfl, ((((decide ((0 : Int) ≤ b.reg)) && (decide (b.reg < c.regs))) && (b.tgt == 0)) && (b.els == 0)), _, fR, (HS.forget A), rfl, (by refine a0m.2 (Iff.trans ?_ bN.symm); first | omega | (simp [aX] <;> omega))⟩
 have al := V
 try simp only [BS] at al
 refine wT 1 [] 77 78 [] [(77, (.bool (b.fin == 4)))] rfl fun _ => am 1 3 (v := (b.fin == 4)) rfl rfl rfl rfl (fun Z => ?_) (fun Z => ?_)
 ·
  have an := Z
  try simp only [BS] at an
  refine wR 1 [(1, .o (iI b.tgt)), (5, .o (iI b.tgt)), (10, .o (iI b.els)), (15, .o (iI b.reg))] 79 96 [4] [(4, (.bool ((((decide ((1 : Int) ≤ b.tgt)) && (decide (b.tgt < 33554432))) && (b.els == 0)) && (b.reg == 0))))] (vA (ql 3 3 (HS.hc A (i := 0) rfl) rfl rfl) (vA (fun (E : (decide ((1 : Int) ≤ b.tgt)) = true) => (ql 3 3 (HS.hc A (i := 0) rfl) rfl rfl)) (vA (fun (E : ((decide ((1 : Int) ≤ b.tgt)) && (decide (b.tgt < 33554432))) = true) => (ql 3 4 (HS.hc A (i := 0) rfl) rfl rfl)) (vA (fun (E : (((decide ((1 : Int) ≤ b.tgt)) && (decide (b.tgt < 33554432))) && (b.els == 0)) = true) => (ql 3 2 (HS.hc A (i := 0) rfl) rfl rfl)) trivial)))) rfl fun _ => ak ⟨.inr rfl, _, rfl, ((((decide ((1 : Int) ≤ b.tgt)) && (decide (b.tgt < 33554432))) && (b.els == 0)) && (b.reg == 0)), _, fR, (HS.forget A), rfl, (by refine a0m.2 (Iff.trans ?_ bN.symm); first | omega | (simp [aX] <;> omega))⟩
 have an := Z
 try simp only [BS] at an
 refine wT 1 [] 4 4 [] [(4, (.bool false))] rfl fun _ => ak ⟨.inr rfl, _, rfl, false, _, fR, (HS.forget A), rfl, (by refine a0m.2 (Iff.trans ?_ bN.symm); first | omega | (simp [aX] <;> omega))⟩
set_option maxHeartbeats 1000000 in
theorem iD {N : Option Addr} {T : Nat} (c : VFnT) (hs : HS (.of H []) F H [] R) (e4 : in64 c.params) (e5 : in64 c.regs) (ad : SR F (.slice N c.blocks.length T) c.blocks) (hT : TB 37 tabC F) (hv : ∀ j, (c.blocks.getD j default).ins.length ≤ 9223372036854775807) : kKt ex 49 [(.agg ⟨[(iI c.params), (iI c.regs), (.slice N c.blocks.length T)]⟩)] H fun v H' => ∃ (r : Bool) (F' : Fz), Fz.le F F' ∧ HS (.of H []) F' H' [] R ∧ v = .bool r ∧ r = d6 c := by
 refine aH Tryd.func49 rfl rfl (ah 1 rfl (aa (aG (bG hs rfl rfl) rfl rfl ?_)))
 rintro _ H2 _ ⟨b1, rfl, (ag : HS _ _ _ [[(b1, .cells [(iI c.params), (iI c.regs), (.slice N c.blocks.length T)] none false)]] _), _⟩
 refine wa (.bool false) rfl rfl rfl (ae 3 rfl (wR 1 [(1, .o (iI c.params)), (5, .o (iI c.params)), (10, .o (iI c.regs)), (15, .o (iI c.regs)), (20, .o (.slice N c.blocks.length T)), (26, .o (.slice N c.blocks.length T))] 10 39 [] [(39, (.bool ((((((decide (c.params < 0)) || (decide ((6 : Int) < c.params))) || (decide (c.regs < 0))) || (decide ((3000 : Int) < c.regs))) || (decide ((c.blocks.length : Int) < 1))) || (decide ((1000 : Int) < (c.blocks.length : Int))))))] (vA (ql 3 0 (HS.hc ag (i := 0) rfl) rfl rfl) (vA (fun (U : (decide (c.params < 0)) = false) => (ql 3 0 (HS.hc ag (i := 0) rfl) rfl rfl)) (vA (fun (U : ((decide (c.params < 0)) || (decide ((6 : Int) < c.params))) = false) => (ql 3 1 (HS.hc ag (i := 0) rfl) rfl rfl)) (vA (fun (U : (((decide (c.params < 0)) || (decide ((6 : Int) < c.params))) || (decide (c.regs < 0))) = false) => (ql 3 1 (HS.hc ag (i := 0) rfl) rfl rfl)) (vA (fun (U : ((((decide (c.params < 0)) || (decide ((6 : Int) < c.params))) || (decide (c.regs < 0))) || (decide ((3000 : Int) < c.regs))) = false) => (ql 22 2 (HS.hc ag (i := 0) rfl) rfl rfl)) (vA (fun (U : (((((decide (c.params < 0)) || (decide ((6 : Int) < c.params))) || (decide (c.regs < 0))) || (decide ((3000 : Int) < c.regs))) || (decide ((c.blocks.length : Int) < 1))) = false) => (ql 22 2 (HS.hc ag (i := 0) rfl) rfl rfl)) trivial)))))) rfl fun _ => am 1 2 (v := ((((((decide (c.params < 0)) || (decide ((6 : Int) < c.params))) || (decide (c.regs < 0))) || (decide ((3000 : Int) < c.regs))) || (decide ((c.blocks.length : Int) < 1))) || (decide ((1000 : Int) < (c.blocks.length : Int))))) rfl rfl rfl rfl (fun cc => ?_) (fun cc => ?_)))
 ·
  have c4 := cc
  try simp only [BS] at c4
  refine wT 1 [] 2 2 [] [(2, (.bool false))] rfl fun _ => ak ⟨.inr rfl, _, rfl, false, _, fR, (HS.forget ag), rfl, (by exact val_lim (by omega))⟩
 have c4 := cc
 try simp only [BS] at c4
 have hlim : 0 ≤ c.params ∧ c.params ≤ 6 ∧ 0 ≤ c.regs ∧ c.regs ≤ 3000 ∧ 1 ≤ c.blocks.length ∧ c.blocks.length ≤ 1000 := by omega
 let dd : Fp := [(b1, .cells [(iI c.params), (iI c.regs), (.slice N c.blocks.length T)] none false)]
 refine wT 2 [] 40 40 [3] [(3, (.func (.func 90) #[] #[(.pointer (some ⟨b1, 0, none⟩))]))] rfl fun _ => wT 3 [] 41 41 [4] [(4, (.func (.func 91) #[] #[(.pointer (some ⟨b1, 0, none⟩))]))] rfl fun _ => wU 2 [(1, .o (.slice N c.blocks.length T))] 42 45 [] [(43, (.slice N c.blocks.length T)), (44, (iI (c.blocks.length : Int))), (45, (iI 0))] (ql 22 2 (HS.hc ag (i := 0) rfl) rfl rfl) rfl fun _ => aj (fun (mm : Nat) f H' => ∃ (k : Nat) (F' : Fz), Fz.le F F' ∧ HS (Base.of H []) F' H' [dd] R ∧ aD f [(1, (.pointer (some ⟨b1, 0, none⟩))), (3, (.func (.func 90) #[] #[(.pointer (some ⟨b1, 0, none⟩))])), (4, (.func (.func 91) #[] #[(.pointer (some ⟨b1, 0, none⟩))])), (43, (.slice N c.blocks.length T)), (44, (iI (c.blocks.length : Int))), (45, (iI (k : Int)))] ∧ mm = c.blocks.length - k ∧ (k ≤ c.blocks.length) ∧ (∀ j, j < k → jN c.params c.regs (c.blocks.length : Int) (c.blocks.getD j default) = true)) _ ⟨0, _, fR, ag, ⟨rfl, rfl, rfl, rfl, rfl, rfl, trivial⟩, rfl, (by omega), (by exact ef)⟩ ?_
 rintro f5 f9 H9 ⟨k, F9, V, b2, c9, rfl, hk, ha⟩ b3
 refine ap _ c9 (fun _ => ?_)
 clear c9
 replace hT := hT.mono V
 replace ad := ad.mono V
 have hvk := hv k
 refine ah 1 rfl (wT 2 [] 46 46 [] [(46, (.bool (decide ((k : Int) < (c.blocks.length : Int)))))] rfl fun _ => am 4 5 (v := (decide ((k : Int) < (c.blocks.length : Int)))) rfl rfl rfl rfl (fun a3 => ?_) (fun a3 => ?_))
 ·
  have b5 := a3
  try simp only [BS] at b5
  refine aa ?_
  obtain ⟨J, c5⟩ := Sv.view (SR.sv ad b2)
  obtain ⟨d1, d2, ea, em, al⟩ := BlkT.fx (c5 k)
  let dk : Value := (.agg ⟨[(.slice (cA (J k) 0) (c.blocks.getD k default).ins.length (cK (J k) 0)), (iI (c.blocks.getD k default).fin), (iI (c.blocks.getD k default).reg), (iI (c.blocks.getD k default).tgt), (iI (c.blocks.getD k default).els)]⟩)
  refine wRo 2 0 [(1, .o dk)] 47 48 [] [(48, dk)] (vA (Sv.ix (j := (k : Int)) (SR.sv ad b2) (by omega) (by omega)) (vA (qn 48 0 5 (BlkT.vw (c5 k) (by omega)) rfl rfl rfl rfl) trivial)) rfl fun _ => aG (bp b2 rfl) rfl rfl ?_
  rintro _ fi _ ⟨bz, rfl, (ds : HS _ _ _ [_, [(bz, .cells [(.slice none 0 0), (iI 0), (iI 0), (iI 0), (iI 0)] none false)]] _), _⟩
  refine aN (aI (q := 1) ds rfl rfl rfl rfl rfl rfl rfl rfl rfl) rfl ?_
  rintro _ f0 _ ⟨(c3 : HS _ _ _ [_, [(bz, .cells [(.slice (cA (J k) 0) (c.blocks.getD k default).ins.length (cK (J k) 0)), (iI (c.blocks.getD k default).fin), (iI (c.blocks.getD k default).reg), (iI (c.blocks.getD k default).tgt), (iI (c.blocks.getD k default).els)] none false)]] _), _⟩
  refine ae 3 rfl (wU 2 [(1, .o (.slice (cA (J k) 0) (c.blocks.getD k default).ins.length (cK (J k) 0)))] 49 52 [] [(50, (.slice (cA (J k) 0) (c.blocks.getD k default).ins.length (cK (J k) 0))), (51, (iI ((c.blocks.getD k default).ins.length : Int))), (52, (iI 0))] (ql 46 0 (HS.hc c3 (i := 1) rfl) rfl rfl) rfl fun _ => aj (fun (mm : Nat) f H' => ∃ (i : Nat) (F' : Fz), Fz.le F9 F' ∧ HS (Base.of H []) F' H' [dd, [(bz, .cells [(.slice (cA (J k) 0) (c.blocks.getD k default).ins.length (cK (J k) 0)), (iI (c.blocks.getD k default).fin), (iI (c.blocks.getD k default).reg), (iI (c.blocks.getD k default).tgt), (iI (c.blocks.getD k default).els)] none false)]] R ∧ aD f [(1, (.pointer (some ⟨b1, 0, none⟩))), (3, (.func (.func 90) #[] #[(.pointer (some ⟨b1, 0, none⟩))])), (4, (.func (.func 91) #[] #[(.pointer (some ⟨b1, 0, none⟩))])), (6, (.pointer (some ⟨bz, 0, none⟩))), (43, (.slice N c.blocks.length T)), (44, (iI (c.blocks.length : Int))), (45, (iI (k : Int))), (50, (.slice (cA (J k) 0) (c.blocks.getD k default).ins.length (cK (J k) 0))), (51, (iI ((c.blocks.getD k default).ins.length : Int))), (52, (iI (i : Int)))] ∧ mm = (c.blocks.getD k default).ins.length - i ∧ (i ≤ (c.blocks.getD k default).ins.length) ∧ (∀ j, j < i → eJ c.params c.regs ((c.blocks.getD k default).ins.getD j default) = true)) _ ⟨0, _, fR, c3, ⟨rfl, rfl, rfl, rfl, rfl, rfl, rfl, rfl, rfl, rfl, trivial⟩, rfl, (by omega), (by exact ef)⟩ ?_)
  rintro e6 f4 ax ⟨i, e9, E, A, c0, rfl, hi, hb⟩ dv
  refine ap _ c0 (fun _ => ?_)
  clear c0
  replace hT := hT.mono E
  replace ad := ad.mono E
  replace al := al.mono E
  refine ah 1 rfl (wT 2 [] 53 53 [] [(53, (.bool (decide ((i : Int) < ((c.blocks.getD k default).ins.length : Int)))))] rfl fun _ => am 4 5 (v := (decide ((i : Int) < ((c.blocks.getD k default).ins.length : Int)))) rfl rfl rfl rfl (fun a4 => ?_) (fun a4 => ?_))
  ·
   have b6 := a4
   try simp only [BS] at b6
   refine aa ?_
   obtain ⟨ar, c6⟩ := Sv.view (SR.sv al A)
   obtain ⟨es, et, ez, e0, e1, c7⟩ := VInT.fx (c6 i)
   let b4 : Value := (.agg ⟨[(iI ((c.blocks.getD k default).ins.getD i default).i.op), (iI ((c.blocks.getD k default).ins.getD i default).i.a), (iI ((c.blocks.getD k default).ins.getD i default).i.b), (iI ((c.blocks.getD k default).ins.getD i default).i.c), (iI ((c.blocks.getD k default).ins.getD i default).i.n), (.slice (cA (ar i) 5) ((c.blocks.getD k default).ins.getD i default).args.length (cK (ar i) 5))]⟩)
   refine wRo 2 0 [(1, .o b4)] 54 55 [] [(55, b4)] (vA (Sv.ix (j := (i : Int)) (SR.sv al A) (by omega) (by omega)) (vA (qn 52 0 6 (VInT.vw (c6 i) (by omega)) rfl rfl rfl rfl) trivial)) rfl fun _ => aG (bp A rfl) rfl rfl ?_
   rintro _ f1 _ ⟨c8, rfl, (dt : HS _ _ _ [_, _, [(c8, .cells [(iI 0), (iI 0), (iI 0), (iI 0), (iI 0), (.slice none 0 0)] none false)]] _), _⟩
   refine aN (aI (q := 2) dt rfl rfl rfl rfl rfl rfl rfl rfl rfl) rfl ?_
   rintro _ f2 _ ⟨(av : HS _ _ _ [_, _, [(c8, .cells [(iI ((c.blocks.getD k default).ins.getD i default).i.op), (iI ((c.blocks.getD k default).ins.getD i default).i.a), (iI ((c.blocks.getD k default).ins.getD i default).i.b), (iI ((c.blocks.getD k default).ins.getD i default).i.c), (iI ((c.blocks.getD k default).ins.getD i default).i.n), (.slice (cA (ar i) 5) ((c.blocks.getD k default).ins.getD i default).args.length (cK (ar i) 5))] none false)]] _), _⟩
   let dl : Value := (.agg ⟨[(iI c.params), (iI c.regs), (.slice N c.blocks.length T)]⟩)
   refine ae 2 rfl (aa (wRo 2 0 [(0, .o dl), (1, .o b4)] 56 57 [] [(56, dl), (57, b4)] (vA (qn 24 0 3 (HS.hc av (i := 0) rfl) rfl rfl rfl rfl) (vA (qn 52 0 6 (HS.hc av (i := 2) rfl) rfl rfl rfl rfl) trivial)) rfl fun _ => aA (aq rfl rfl rfl) rfl rfl (vinstr_c ex (⟨c.params, c.regs, c.blocks⟩ : VFnT) (⟨(⟨((c.blocks.getD k default).ins.getD i default).i.op, ((c.blocks.getD k default).ins.getD i default).i.a, ((c.blocks.getD k default).ins.getD i default).i.b, ((c.blocks.getD k default).ins.getD i default).i.c, ((c.blocks.getD k default).ins.getD i default).i.n⟩ : InsT), ((c.blocks.getD k default).ins.getD i default).args⟩ : VInT) (HS.call av) (by omega) (by omega) ad (by omega) (by omega) (by omega) (by omega) (by omega) c7 hT) ?_))
   rintro _ f3 ⟨f6, fd, co, aw, rfl, rfl⟩
   replace aw : HS _ _ _ [_, _, _] _ := HS.back av rfl aw
   refine wTo 1 3 [] 59 59 [] [(59, (.bool (!(eJ (⟨c.params, c.regs, c.blocks⟩ : VFnT).params (⟨c.params, c.regs, c.blocks⟩ : VFnT).regs (⟨(⟨((c.blocks.getD k default).ins.getD i default).i.op, ((c.blocks.getD k default).ins.getD i default).i.a, ((c.blocks.getD k default).ins.getD i default).i.b, ((c.blocks.getD k default).ins.getD i default).i.c, ((c.blocks.getD k default).ins.getD i default).i.n⟩ : InsT), ((c.blocks.getD k default).ins.getD i default).args⟩ : VInT)))))] rfl fun _ => ae 1 rfl (am 1 2 (v := (!(eJ (⟨c.params, c.regs, c.blocks⟩ : VFnT).params (⟨c.params, c.regs, c.blocks⟩ : VFnT).regs (⟨(⟨((c.blocks.getD k default).ins.getD i default).i.op, ((c.blocks.getD k default).ins.getD i default).i.a, ((c.blocks.getD k default).ins.getD i default).i.b, ((c.blocks.getD k default).ins.getD i default).i.c, ((c.blocks.getD k default).ins.getD i default).i.n⟩ : InsT), ((c.blocks.getD k default).ins.getD i default).args⟩ : VInT)))) rfl rfl rfl rfl (fun a5 => ?_) (fun a5 => ?_))
   ·
    have b0 := a5
    try simp only [BS] at b0
    have h3 := b0
    refine wT 1 [] 2 2 [] [(2, (.bool false))] rfl fun _ => ak ⟨.inr rfl, _, rfl, false, _, (fT (fT (V) E) co), (HS.forget aw), rfl, (by exact gF (dF (by omega) (blk_no (dF (by omega) h3))))⟩
   have b0 := a5
   try simp only [BS] at b0
   refine wU 1 [] 52 52 [60] [(52, (iI ((i : Int) + 1)))] (vi (n := (i : Int) + 1) (by omega)) rfl fun _ => dv _ _ _ ?_ ⟨i + 1, _, (fT (E) co), (HS.sub aw (a03 _ _)), ⟨rfl, rfl, rfl, rfl, rfl, rfl, rfl, rfl, rfl, rfl, trivial⟩, rfl, (by omega), (by exact cR hb (by assumption))⟩
   omega
  have b6 := a4
  try simp only [BS] at b6
  have hal := e7 hb (by omega)
  refine wT 3 [] 1 0 [9] [(9, (.bool false))] rfl fun _ => wU 3 [(1, .o (iI (c.blocks.getD k default).fin))] 61 62 [] [(62, (iI (c.blocks.getD k default).fin))] (ql 3 1 (HS.hc A (i := 1) rfl) rfl rfl) rfl fun _ => wT 1 [] 63 64 [] [(63, (.bool ((c.blocks.getD k default).fin == 1)))] rfl fun _ => am 0 1 (v := ((c.blocks.getD k default).fin == 1)) rfl rfl rfl rfl (fun a6 => ?_) (fun a6 => ?_)
  ·
   have b7 := a6
   try simp only [BS] at b7
   refine wR 3 [(2, .o (iI (c.blocks.getD k default).tgt)), (3, .o (.bool (aL ((⟨c.params, c.regs, c.blocks⟩ : VFnT).blocks.length : Int) (c.blocks.getD k default).tgt))), (6, .o (iI (c.blocks.getD k default).reg)), (11, .o (iI (c.blocks.getD k default).els))] 65 78 [9] [(9, (.bool ((aL ((⟨c.params, c.regs, c.blocks⟩ : VFnT).blocks.length : Int) (c.blocks.getD k default).tgt && ((c.blocks.getD k default).reg == 0)) && ((c.blocks.getD k default).els == 0))))] (vA (ql 3 3 (HS.hc A (i := 1) rfl) rfl rfl) (vA (kv ex (c.blocks.getD k default).tgt (⟨c.params, c.regs, c.blocks⟩ : VFnT) ax (by omega) (HS.hc A (i := 0) rfl) (by omega) (by omega)) (vA (fun (U : (aL ((⟨c.params, c.regs, c.blocks⟩ : VFnT).blocks.length : Int) (c.blocks.getD k default).tgt) = true) => (ql 3 2 (HS.hc A (i := 1) rfl) rfl rfl)) (vA (fun (U : (aL ((⟨c.params, c.regs, c.blocks⟩ : VFnT).blocks.length : Int) (c.blocks.getD k default).tgt && ((c.blocks.getD k default).reg == 0)) = true) => (ql 3 4 (HS.hc A (i := 1) rfl) rfl rfl)) trivial)))) rfl fun _ => wT 1 [] 133 134 [] [(134, (.bool (!((aL ((⟨c.params, c.regs, c.blocks⟩ : VFnT).blocks.length : Int) (c.blocks.getD k default).tgt && ((c.blocks.getD k default).reg == 0)) && ((c.blocks.getD k default).els == 0)))))] rfl fun _ => am 1 2 (v := (!((aL ((⟨c.params, c.regs, c.blocks⟩ : VFnT).blocks.length : Int) (c.blocks.getD k default).tgt && ((c.blocks.getD k default).reg == 0)) && ((c.blocks.getD k default).els == 0)))) rfl rfl rfl rfl (fun a7 => ?_) (fun a7 => ?_)
   ·
    have ay := a7
    try simp only [BS] at ay
    have Z := ay
    try simp only [cW, aX] at Z
    refine wT 1 [] 2 2 [] [(2, (.bool false))] rfl fun _ => ak ⟨.inr rfl, _, rfl, false, _, (fT (V) E), (HS.forget A), rfl, (by exact gF (dF (k := k) (by omega) (gE (a1k.2 fun hv => by rw [bN] at hv; omega))))⟩
   have ay := a7
   try simp only [BS] at ay
   have Z := ay
   try simp only [cW, aX] at Z
   refine wU 1 [] 45 45 [135] [(45, (iI ((k : Int) + 1)))] (vi (n := (k : Int) + 1) (by omega)) rfl fun _ => b3 _ _ _ ?_ ⟨k + 1, _, (fT (V) E), (HS.sub A (a03 _ _)), ⟨rfl, rfl, rfl, rfl, rfl, rfl, trivial⟩, rfl, (by omega), (by exact cR ha (gD hal (by (rw [bN]; omega))))⟩
   omega
  have b7 := a6
  try simp only [BS] at b7
  refine wT 1 [] 79 80 [] [(79, (.bool ((c.blocks.getD k default).fin == 2)))] rfl fun _ => am 0 1 (v := ((c.blocks.getD k default).fin == 2)) rfl rfl rfl rfl (fun a8 => ?_) (fun a8 => ?_)
  ·
   have b9 := a8
   try simp only [BS] at b9
   refine wR 3 [(2, .o (iI (c.blocks.getD k default).tgt)), (3, .o (.bool (aL ((⟨c.params, c.regs, c.blocks⟩ : VFnT).blocks.length : Int) (c.blocks.getD k default).tgt))), (7, .o (iI (c.blocks.getD k default).els)), (8, .o (.bool (aL ((⟨c.params, c.regs, c.blocks⟩ : VFnT).blocks.length : Int) (c.blocks.getD k default).els))), (13, .o (iI (c.blocks.getD k default).reg)), (14, .o (.bool (aL (⟨c.params, c.regs, c.blocks⟩ : VFnT).regs (c.blocks.getD k default).reg)))] 81 96 [9] [(9, (.bool ((aL ((⟨c.params, c.regs, c.blocks⟩ : VFnT).blocks.length : Int) (c.blocks.getD k default).tgt && aL ((⟨c.params, c.regs, c.blocks⟩ : VFnT).blocks.length : Int) (c.blocks.getD k default).els) && aL (⟨c.params, c.regs, c.blocks⟩ : VFnT).regs (c.blocks.getD k default).reg)))] (vA (ql 3 3 (HS.hc A (i := 1) rfl) rfl rfl) (vA (kv ex (c.blocks.getD k default).tgt (⟨c.params, c.regs, c.blocks⟩ : VFnT) ax (by omega) (HS.hc A (i := 0) rfl) (by omega) (by omega)) (vA (fun (U : (aL ((⟨c.params, c.regs, c.blocks⟩ : VFnT).blocks.length : Int) (c.blocks.getD k default).tgt) = true) => (ql 3 4 (HS.hc A (i := 1) rfl) rfl rfl)) (vA (fun (U : (aL ((⟨c.params, c.regs, c.blocks⟩ : VFnT).blocks.length : Int) (c.blocks.getD k default).tgt) = true) => (kv ex (c.blocks.getD k default).els (⟨c.params, c.regs, c.blocks⟩ : VFnT) ax (by (try simp only [BS] at U); omega) (HS.hc A (i := 0) rfl) (by (try simp only [BS] at U); omega) (by (try simp only [BS] at U); omega))) (vA (fun (U : (aL ((⟨c.params, c.regs, c.blocks⟩ : VFnT).blocks.length : Int) (c.blocks.getD k default).tgt && aL ((⟨c.params, c.regs, c.blocks⟩ : VFnT).blocks.length : Int) (c.blocks.getD k default).els) = true) => (ql 3 2 (HS.hc A (i := 1) rfl) rfl rfl)) (vA (fun (U : (aL ((⟨c.params, c.regs, c.blocks⟩ : VFnT).blocks.length : Int) (c.blocks.getD k default).tgt && aL ((⟨c.params, c.regs, c.blocks⟩ : VFnT).blocks.length : Int) (c.blocks.getD k default).els) = true) => (cReg_c_q ex (c.blocks.getD k default).reg (⟨c.params, c.regs, c.blocks⟩ : VFnT) ax (by (try simp only [BS] at U); omega) (HS.hc A (i := 0) rfl) (by (try simp only [BS] at U); omega) (by (try simp only [BS] at U); omega))) trivial)))))) rfl fun _ => wT 1 [] 133 134 [] [(134, (.bool (!((aL ((⟨c.params, c.regs, c.blocks⟩ : VFnT).blocks.length : Int) (c.blocks.getD k default).tgt && aL ((⟨c.params, c.regs, c.blocks⟩ : VFnT).blocks.length : Int) (c.blocks.getD k default).els) && aL (⟨c.params, c.regs, c.blocks⟩ : VFnT).regs (c.blocks.getD k default).reg))))] rfl fun _ => am 1 2 (v := (!((aL ((⟨c.params, c.regs, c.blocks⟩ : VFnT).blocks.length : Int) (c.blocks.getD k default).tgt && aL ((⟨c.params, c.regs, c.blocks⟩ : VFnT).blocks.length : Int) (c.blocks.getD k default).els) && aL (⟨c.params, c.regs, c.blocks⟩ : VFnT).regs (c.blocks.getD k default).reg))) rfl rfl rfl rfl (fun a9 => ?_) (fun a9 => ?_)
   ·
    have a0 := a9
    try simp only [BS] at a0
    have Z := a0
    try simp only [cW, aX] at Z
    refine wT 1 [] 2 2 [] [(2, (.bool false))] rfl fun _ => ak ⟨.inr rfl, _, rfl, false, _, (fT (V) E), (HS.forget A), rfl, (by exact gF (dF (k := k) (by omega) (gE (a1k.2 fun hv => by rw [bN] at hv; omega))))⟩
   have a0 := a9
   try simp only [BS] at a0
   have Z := a0
   try simp only [cW, aX] at Z
   refine wU 1 [] 45 45 [135] [(45, (iI ((k : Int) + 1)))] (vi (n := (k : Int) + 1) (by omega)) rfl fun _ => b3 _ _ _ ?_ ⟨k + 1, _, (fT (V) E), (HS.sub A (a03 _ _)), ⟨rfl, rfl, rfl, rfl, rfl, rfl, trivial⟩, rfl, (by omega), (by exact cR ha (gD hal (by (rw [bN]; omega))))⟩
   omega
  have b9 := a8
  try simp only [BS] at b9
  refine wT 1 [] 97 98 [] [(97, (.bool ((c.blocks.getD k default).fin == 3)))] rfl fun _ => am 0 1 (v := ((c.blocks.getD k default).fin == 3)) rfl rfl rfl rfl (fun bb => ?_) (fun bb => ?_)
  ·
   have ch := bb
   try simp only [BS] at ch
   refine wR 3 [(2, .o (iI (c.blocks.getD k default).reg)), (3, .o (.bool (aL (⟨c.params, c.regs, c.blocks⟩ : VFnT).regs (c.blocks.getD k default).reg))), (6, .o (iI (c.blocks.getD k default).tgt)), (11, .o (iI (c.blocks.getD k default).els))] 99 112 [9] [(9, (.bool ((aL (⟨c.params, c.regs, c.blocks⟩ : VFnT).regs (c.blocks.getD k default).reg && ((c.blocks.getD k default).tgt == 0)) && ((c.blocks.getD k default).els == 0))))] (vA (ql 3 2 (HS.hc A (i := 1) rfl) rfl rfl) (vA (cReg_c_q ex (c.blocks.getD k default).reg (⟨c.params, c.regs, c.blocks⟩ : VFnT) ax (by omega) (HS.hc A (i := 0) rfl) (by omega) (by omega)) (vA (fun (U : (aL (⟨c.params, c.regs, c.blocks⟩ : VFnT).regs (c.blocks.getD k default).reg) = true) => (ql 3 3 (HS.hc A (i := 1) rfl) rfl rfl)) (vA (fun (U : (aL (⟨c.params, c.regs, c.blocks⟩ : VFnT).regs (c.blocks.getD k default).reg && ((c.blocks.getD k default).tgt == 0)) = true) => (ql 3 4 (HS.hc A (i := 1) rfl) rfl rfl)) trivial)))) rfl fun _ => wT 1 [] 133 134 [] [(134, (.bool (!((aL (⟨c.params, c.regs, c.blocks⟩ : VFnT).regs (c.blocks.getD k default).reg && ((c.blocks.getD k default).tgt == 0)) && ((c.blocks.getD k default).els == 0)))))] rfl fun _ => am 1 2 (v := (!((aL (⟨c.params, c.regs, c.blocks⟩ : VFnT).regs (c.blocks.getD k default).reg && ((c.blocks.getD k default).tgt == 0)) && ((c.blocks.getD k default).els == 0)))) rfl rfl rfl rfl (fun be => ?_) (fun be => ?_)
   ·
    have a1 := be
    try simp only [BS] at a1
    have Z := a1
    try simp only [cW, aX] at Z
    refine wT 1 [] 2 2 [] [(2, (.bool false))] rfl fun _ => ak ⟨.inr rfl, _, rfl, false, _, (fT (V) E), (HS.forget A), rfl, (by exact gF (dF (k := k) (by omega) (gE (a1k.2 fun hv => by rw [bN] at hv; omega))))⟩
   have a1 := be
   try simp only [BS] at a1
   have Z := a1
   try simp only [cW, aX] at Z
   refine wU 1 [] 45 45 [135] [(45, (iI ((k : Int) + 1)))] (vi (n := (k : Int) + 1) (by omega)) rfl fun _ => b3 _ _ _ ?_ ⟨k + 1, _, (fT (V) E), (HS.sub A (a03 _ _)), ⟨rfl, rfl, rfl, rfl, rfl, rfl, trivial⟩, rfl, (by omega), (by exact cR ha (gD hal (by (rw [bN]; omega))))⟩
   omega
  have ch := bb
  try simp only [BS] at ch
  refine wT 1 [] 113 114 [] [(113, (.bool ((c.blocks.getD k default).fin == 4)))] rfl fun _ => am 0 3 (v := ((c.blocks.getD k default).fin == 4)) rfl rfl rfl rfl (fun bk => ?_) (fun bk => ?_)
  ·
   have ci := bk
   try simp only [BS] at ci
   refine wR 3 [(1, .o (iI (c.blocks.getD k default).tgt)), (5, .o (iI (c.blocks.getD k default).tgt)), (10, .o (iI (c.blocks.getD k default).reg)), (15, .o (iI (c.blocks.getD k default).els))] 115 132 [9] [(9, (.bool ((((decide ((1 : Int) ≤ (c.blocks.getD k default).tgt)) && (decide ((c.blocks.getD k default).tgt < 33554432))) && ((c.blocks.getD k default).reg == 0)) && ((c.blocks.getD k default).els == 0))))] (vA (ql 3 3 (HS.hc A (i := 1) rfl) rfl rfl) (vA (fun (U : (decide ((1 : Int) ≤ (c.blocks.getD k default).tgt)) = true) => (ql 3 3 (HS.hc A (i := 1) rfl) rfl rfl)) (vA (fun (U : ((decide ((1 : Int) ≤ (c.blocks.getD k default).tgt)) && (decide ((c.blocks.getD k default).tgt < 33554432))) = true) => (ql 3 2 (HS.hc A (i := 1) rfl) rfl rfl)) (vA (fun (U : (((decide ((1 : Int) ≤ (c.blocks.getD k default).tgt)) && (decide ((c.blocks.getD k default).tgt < 33554432))) && ((c.blocks.getD k default).reg == 0)) = true) => (ql 3 4 (HS.hc A (i := 1) rfl) rfl rfl)) trivial)))) rfl fun _ => wT 1 [] 133 134 [] [(134, (.bool (!((((decide ((1 : Int) ≤ (c.blocks.getD k default).tgt)) && (decide ((c.blocks.getD k default).tgt < 33554432))) && ((c.blocks.getD k default).reg == 0)) && ((c.blocks.getD k default).els == 0)))))] rfl fun _ => am 1 2 (v := (!((((decide ((1 : Int) ≤ (c.blocks.getD k default).tgt)) && (decide ((c.blocks.getD k default).tgt < 33554432))) && ((c.blocks.getD k default).reg == 0)) && ((c.blocks.getD k default).els == 0)))) rfl rfl rfl rfl (fun bl => ?_) (fun bl => ?_)
   ·
    have a2 := bl
    try simp only [BS] at a2
    have Z := a2
    try simp only [cW, aX] at Z
    refine wT 1 [] 2 2 [] [(2, (.bool false))] rfl fun _ => ak ⟨.inr rfl, _, rfl, false, _, (fT (V) E), (HS.forget A), rfl, (by exact gF (dF (k := k) (by omega) (gE (a1k.2 fun hv => by rw [bN] at hv; omega))))⟩
   have a2 := bl
   try simp only [BS] at a2
   have Z := a2
   try simp only [cW, aX] at Z
   refine wU 1 [] 45 45 [135] [(45, (iI ((k : Int) + 1)))] (vi (n := (k : Int) + 1) (by omega)) rfl fun _ => b3 _ _ _ ?_ ⟨k + 1, _, (fT (V) E), (HS.sub A (a03 _ _)), ⟨rfl, rfl, rfl, rfl, rfl, rfl, trivial⟩, rfl, (by omega), (by exact cR ha (gD hal (by (rw [bN]; omega))))⟩
   omega
  have ci := bk
  try simp only [BS] at ci
  refine wT 1 [] 133 134 [] [(134, (.bool true))] rfl fun _ => bu 1 (v := true) rfl rfl rfl rfl (wT 1 [] 2 2 [] [(2, (.bool false))] rfl fun _ => ak ⟨.inr rfl, _, rfl, false, _, (fT (V) E), (HS.forget A), rfl, (by exact gF (dF (k := k) (by omega) (gE (a1k.2 fun hv => by rw [bN] at hv; omega))))⟩)
 have b5 := a3
 try simp only [BS] at b5
 refine wT 1 [] 2 2 [] [(2, (.bool true))] rfl fun _ => ak ⟨.inr rfl, _, rfl, true, _, (V), (HS.forget b2), rfl, (by exact val_yes hlim (e7 ha (by omega)))⟩
set_option maxHeartbeats 1000000 in
theorem rvalid_c {N : Option Addr} {U : Nat} (c : VFnT) (hs : HS (.of H []) F H [] R) (ea : in64 c.params) (em : in64 c.regs) (E : SR F (.slice N c.blocks.length U) c.blocks) (hT : TB 37 tabC F) (hv : ∀ j, (c.blocks.getD j default).ins.length ≤ 9223372036854775807) : kKt ex 53 [(.agg ⟨[(iI c.params), (iI c.regs), (.slice N c.blocks.length U)]⟩)] H fun v H' => ∃ (r : Bool) (F' : Fz), Fz.le F F' ∧ HS (.of H []) F' H' [] R ∧ v = .bool r ∧ r = d6 c := by
 refine aH Tryd.func53 rfl rfl (ah 1 rfl (aa (aG (bG hs rfl rfl) rfl rfl ?_)))
 rintro _ H2 _ ⟨b1, rfl, (ag : HS _ _ _ [[(b1, .cells [(iI c.params), (iI c.regs), (.slice N c.blocks.length U)] none false)]] _), _⟩
 refine wa (.bool false) rfl rfl rfl (ae 3 rfl (wR 1 [(1, .o (iI c.params)), (5, .o (iI c.params)), (10, .o (iI c.regs)), (15, .o (iI c.regs)), (20, .o (.slice N c.blocks.length U)), (26, .o (.slice N c.blocks.length U))] 6 35 [] [(35, (.bool ((((((decide (c.params < 0)) || (decide ((6 : Int) < c.params))) || (decide (c.regs < 0))) || (decide ((3000 : Int) < c.regs))) || (decide ((c.blocks.length : Int) < 1))) || (decide ((1000 : Int) < (c.blocks.length : Int))))))] (vA (ql 3 0 (HS.hc ag (i := 0) rfl) rfl rfl) (vA (fun (g1 : (decide (c.params < 0)) = false) => (ql 3 0 (HS.hc ag (i := 0) rfl) rfl rfl)) (vA (fun (g1 : ((decide (c.params < 0)) || (decide ((6 : Int) < c.params))) = false) => (ql 3 1 (HS.hc ag (i := 0) rfl) rfl rfl)) (vA (fun (g1 : (((decide (c.params < 0)) || (decide ((6 : Int) < c.params))) || (decide (c.regs < 0))) = false) => (ql 3 1 (HS.hc ag (i := 0) rfl) rfl rfl)) (vA (fun (g1 : ((((decide (c.params < 0)) || (decide ((6 : Int) < c.params))) || (decide (c.regs < 0))) || (decide ((3000 : Int) < c.regs))) = false) => (ql 22 2 (HS.hc ag (i := 0) rfl) rfl rfl)) (vA (fun (g1 : (((((decide (c.params < 0)) || (decide ((6 : Int) < c.params))) || (decide (c.regs < 0))) || (decide ((3000 : Int) < c.regs))) || (decide ((c.blocks.length : Int) < 1))) = false) => (ql 22 2 (HS.hc ag (i := 0) rfl) rfl rfl)) trivial)))))) rfl fun _ => am 1 3 (v := ((((((decide (c.params < 0)) || (decide ((6 : Int) < c.params))) || (decide (c.regs < 0))) || (decide ((3000 : Int) < c.regs))) || (decide ((c.blocks.length : Int) < 1))) || (decide ((1000 : Int) < (c.blocks.length : Int))))) rfl rfl rfl rfl (fun a6 => ?_) (fun a6 => ?_)))
 ·
  have c4 := a6
  try simp only [BS] at c4
  refine wT 1 [] 2 2 [] [(2, (.bool false))] rfl fun _ => ak ⟨.inr rfl, _, rfl, false, _, fR, (HS.forget ag), rfl, (by exact val_lim (by omega))⟩
 have c4 := a6
 try simp only [BS] at c4
 have hlim : 0 ≤ c.params ∧ c.params ≤ 6 ∧ 0 ≤ c.regs ∧ c.regs ≤ 3000 ∧ 1 ≤ c.blocks.length ∧ c.blocks.length ≤ 1000 := by omega
 let b4 : Fp := [(b1, .cells [(iI c.params), (iI c.regs), (.slice N c.blocks.length U)] none false)]
 refine wT 2 [] 1 0 [3] [(3, (iI 0))] rfl fun _ => aj (fun (mm : Nat) f H' => ∃ (k : Nat) (F' : Fz), Fz.le F F' ∧ HS (Base.of H []) F' H' [b4] R ∧ aD f [(1, (.pointer (some ⟨b1, 0, none⟩))), (3, (iI (k : Int)))] ∧ mm = c.blocks.length - k ∧ (k ≤ c.blocks.length) ∧ (∀ j, j < k → jN c.params c.regs (c.blocks.length : Int) (c.blocks.getD j default) = true)) _ ⟨0, _, fR, ag, ⟨rfl, rfl, trivial⟩, rfl, (by omega), (by exact ef)⟩ ?_
 rintro e5 f7 H7 ⟨k, F7, an, ar, b3, rfl, hk, ha⟩ c3
 refine ap _ b3 (fun _ => ?_)
 clear b3
 replace hT := hT.mono an
 replace E := E.mono an
 have hvk := hv k
 refine ah 2 rfl (wU 1 [(2, .o (.slice N c.blocks.length U))] 36 40 [] [(40, (.bool (decide ((k : Int) < (c.blocks.length : Int)))))] (ql 22 2 (HS.hc ar (i := 0) rfl) rfl rfl) rfl fun _ => am 4 5 (v := (decide ((k : Int) < (c.blocks.length : Int)))) rfl rfl rfl rfl (fun a7 => ?_) (fun a7 => ?_))
 ·
  have c9 := a7
  try simp only [BS] at c9
  refine aa ?_
  obtain ⟨A, bb⟩ := Sv.view (SR.sv E ar)
  obtain ⟨c5, c6, c7, c8, V⟩ := BlkT.fx (bb k)
  let a3 : Value := (.agg ⟨[(.slice (cA (A k) 0) (c.blocks.getD k default).ins.length (cK (A k) 0)), (iI (c.blocks.getD k default).fin), (iI (c.blocks.getD k default).reg), (iI (c.blocks.getD k default).tgt), (iI (c.blocks.getD k default).els)]⟩)
  refine wRo 5 0 [(1, .o (.slice N c.blocks.length U)), (4, .o a3)] 43 47 [] [(47, a3)] (vA (ql 22 2 (HS.hc ar (i := 0) rfl) rfl rfl) (vA (Sv.ix (j := (k : Int)) (SR.sv E ar) (by omega) (by omega)) (vA (qn 48 0 5 (BlkT.vw (bb k) (by omega)) rfl rfl rfl rfl) trivial))) rfl fun _ => aG (bp ar rfl) rfl rfl ?_
  rintro _ e0 _ ⟨al, rfl, (cc : HS _ _ _ [_, [(al, .cells [(.slice none 0 0), (iI 0), (iI 0), (iI 0), (iI 0)] none false)]] _), _⟩
  refine aN (aI (q := 1) cc rfl rfl rfl rfl rfl rfl rfl rfl rfl) rfl ?_
  rintro _ e1 _ ⟨(av : HS _ _ _ [_, [(al, .cells [(.slice (cA (A k) 0) (c.blocks.getD k default).ins.length (cK (A k) 0)), (iI (c.blocks.getD k default).fin), (iI (c.blocks.getD k default).reg), (iI (c.blocks.getD k default).tgt), (iI (c.blocks.getD k default).els)] none false)]] _), _⟩
  let be : Value := (.agg ⟨[(iI c.params), (iI c.regs), (.slice N c.blocks.length U)]⟩)
  refine ae 3 rfl (aa (wRo 2 0 [(0, .o a3), (1, .o be)] 48 49 [] [(48, a3), (49, be)] (vA (qn 48 0 5 (HS.hc av (i := 1) rfl) rfl rfl rfl rfl) (vA (qn 24 0 3 (HS.hc av (i := 0) rfl) rfl rfl rfl rfl) trivial)) rfl fun _ => aA (aq rfl rfl rfl) rfl rfl (rEnd_c ex (⟨(c.blocks.getD k default).ins, (c.blocks.getD k default).fin, (c.blocks.getD k default).reg, (c.blocks.getD k default).tgt, (c.blocks.getD k default).els⟩ : BlkT) (⟨c.params, c.regs, c.blocks⟩ : VFnT) (HS.call av) V (by omega) (by omega) (by omega) (by omega) (by omega) (by omega) E hT) ?_))
  rintro _ e2 ⟨e6, co, Z, aw, rfl, rfl⟩
  replace aw : HS _ _ _ [_, _] _ := HS.back av rfl aw
  replace hT := hT.mono Z
  replace E := E.mono Z
  replace V := V.mono Z
  refine wTo 1 3 [] 51 51 [] [(51, (.bool (!(vendV ((⟨c.params, c.regs, c.blocks⟩ : VFnT).blocks.length : Int) (⟨c.params, c.regs, c.blocks⟩ : VFnT).regs (⟨(c.blocks.getD k default).ins, (c.blocks.getD k default).fin, (c.blocks.getD k default).reg, (c.blocks.getD k default).tgt, (c.blocks.getD k default).els⟩ : BlkT)))))] rfl fun _ => ae 1 rfl (am 1 2 (v := (!(vendV ((⟨c.params, c.regs, c.blocks⟩ : VFnT).blocks.length : Int) (⟨c.params, c.regs, c.blocks⟩ : VFnT).regs (⟨(c.blocks.getD k default).ins, (c.blocks.getD k default).fin, (c.blocks.getD k default).reg, (c.blocks.getD k default).tgt, (c.blocks.getD k default).els⟩ : BlkT)))) rfl rfl rfl rfl (fun ay => ?_) (fun ay => ?_))
  ·
   have ax := ay
   try simp only [BS] at ax
   have h2 := ax
   refine wT 1 [] 2 2 [] [(2, (.bool false))] rfl fun _ => ak ⟨.inr rfl, _, rfl, false, _, (fT (an) Z), (HS.forget aw), rfl, (by exact gF (dF (by omega) (gE h2)))⟩
  have ax := ay
  try simp only [BS] at ax
  have hend := ax
  refine wT 2 [] 1 0 [5] [(5, (iI 0))] rfl fun _ => aj (fun (mm : Nat) f H' => ∃ (i : Nat) (F' : Fz), Fz.le co F' ∧ HS (Base.of H []) F' H' [b4, [(al, .cells [(.slice (cA (A k) 0) (c.blocks.getD k default).ins.length (cK (A k) 0)), (iI (c.blocks.getD k default).fin), (iI (c.blocks.getD k default).reg), (iI (c.blocks.getD k default).tgt), (iI (c.blocks.getD k default).els)] none false)]] R ∧ aD f [(1, (.pointer (some ⟨b1, 0, none⟩))), (3, (iI (k : Int))), (4, (.pointer (some ⟨al, 0, none⟩))), (5, (iI (i : Int)))] ∧ mm = (c.blocks.getD k default).ins.length - i ∧ (i ≤ (c.blocks.getD k default).ins.length) ∧ (∀ j, j < i → eJ c.params c.regs ((c.blocks.getD k default).ins.getD j default) = true)) _ ⟨0, _, fR, aw, ⟨rfl, rfl, rfl, rfl, trivial⟩, rfl, (by omega), (by exact ef)⟩ ?_
  rintro es e4 e3 ⟨i, et, ad, T, a9, rfl, hi, hb⟩ ch
  refine ap _ a9 (fun _ => ?_)
  clear a9
  replace hT := hT.mono ad
  replace E := E.mono ad
  replace V := V.mono ad
  refine ah 2 rfl (wU 1 [(2, .o (.slice (cA (A k) 0) (c.blocks.getD k default).ins.length (cK (A k) 0)))] 52 56 [] [(56, (.bool (decide ((i : Int) < ((c.blocks.getD k default).ins.length : Int)))))] (ql 46 0 (HS.hc T (i := 1) rfl) rfl rfl) rfl fun _ => am 4 5 (v := (decide ((i : Int) < ((c.blocks.getD k default).ins.length : Int)))) rfl rfl rfl rfl (fun a0 => ?_) (fun a0 => ?_))
  ·
   have a5 := a0
   try simp only [BS] at a5
   refine aS rfl (wfv (v := (.pointer (some ⟨al, 0, none⟩))) (bn rfl rfl) (aF (v := (.slice (cA (A k) 0) (c.blocks.getD k default).ins.length (cK (A k) 0))) (id := .l al) (aU (i := 0) rfl rfl (HS.hc T.log0 (i := 1) rfl) rfl rfl) rfl rfl (bx rfl) (kb rfl) (fm (iI (i : Int)) rfl rfl rfl (wfv (v := (.pointer (some ⟨sB (.slice (cA (A k) 0) (c.blocks.getD k default).ins.length (cK (A k) 0)), sO (.slice (cA (A k) 0) (c.blocks.getD k default).ins.length (cK (A k) 0)) + i * Rp.sz VInT, none⟩))) (bh (α := VInT) (j := (i : Int)) rfl rfl rfl rfl (SR.sv V T.log0) (by omega) (by omega)) ?_))))
   obtain ⟨dv, b9, b7⟩ := Sv.at (SR.sv V T.log0) (aM (x := default) (show i < (c.blocks.getD k default).ins.length from by omega))
   obtain ⟨bk, b0, rfl, dd, dk, dl, dn, ds, b2⟩ := b9
   refine aF (v := (.agg ⟨[(iI ((c.blocks.getD k default).ins.getD i default).i.op), (iI ((c.blocks.getD k default).ins.getD i default).i.a), (iI ((c.blocks.getD k default).ins.getD i default).i.b), (iI ((c.blocks.getD k default).ins.getD i default).i.c), (iI ((c.blocks.getD k default).ins.getD i default).i.n), (.slice bk ((c.blocks.getD k default).ins.getD i default).args.length b0)]⟩)) (id := .l (sB (.slice (cA (A k) 0) (c.blocks.getD k default).ins.length (cK (A k) 0)))) (eL (i := 0) rfl rfl rfl b7 rfl rfl rfl) rfl rfl (bx rfl) (kb rfl) (aF (v := be) (id := .l b1) (eL (i := 0) rfl rfl rfl (HS.hc T.log0 (i := 0) rfl) rfl rfl rfl) rfl rfl (bx rfl) (kb rfl) (bY (W := []) (aq rfl rfl rfl) rfl rfl rfl (rinstr_c ex ((c.blocks.getD k default).ins.getD i default) (⟨c.params, c.regs, c.blocks⟩ : VFnT) (HS.call T.log0) (by omega) (by omega) (by omega) (by omega) (by omega) b2 (by omega) (by omega) E hT) (kb rfl) ?_))
   rintro _ c0 ⟨e9, ez, a8, J, rfl, rfl⟩
   refine ⟨Wr.did J.log, fun ci bz => ?_⟩
   replace J := HS.back T.log0 rfl J
   replace J := HS.lg J T bz
   generalize ({ c0 with log := ci } : Heap) = dt at J ⊢
   have J : HS _ _ _ [_, _] _ := J
   refine wfv (v := (.bool (!(eJ (⟨c.params, c.regs, c.blocks⟩ : VFnT).params (⟨c.params, c.regs, c.blocks⟩ : VFnT).regs ((c.blocks.getD k default).ins.getD i default))))) (ap_not rfl) (bT (ah 1 rfl (am 1 2 (v := (!(eJ (⟨c.params, c.regs, c.blocks⟩ : VFnT).params (⟨c.params, c.regs, c.blocks⟩ : VFnT).regs ((c.blocks.getD k default).ins.getD i default)))) rfl rfl rfl rfl (fun a1 => ?_) (fun a1 => ?_))))
   ·
    have a2 := a1
    try simp only [BS] at a2
    have h4 := a2
    refine wT 1 [] 2 2 [] [(2, (.bool false))] rfl fun _ => ak ⟨.inr rfl, _, rfl, false, _, (fT (fT (fT (an) Z) ad) a8), (HS.forget J), rfl, (by exact gF (dF (by omega) (blk_no (dF (by omega) h4))))⟩
   have a2 := a1
   try simp only [BS] at a2
   refine wU 1 [] 57 58 [5] [(5, (iI ((i : Int) + 1)))] (vi (n := (i : Int) + 1) (by omega)) rfl fun _ => ch _ _ _ ?_ ⟨i + 1, _, (fT (ad) a8), J, ⟨rfl, rfl, rfl, rfl, trivial⟩, rfl, (by omega), (by exact cR hb (by assumption))⟩
   omega
  have a5 := a0
  try simp only [BS] at a5
  have hal := e7 hb (by omega)
  refine wU 1 [] 41 42 [3] [(3, (iI ((k : Int) + 1)))] (vi (n := (k : Int) + 1) (by omega)) rfl fun _ => c3 _ _ _ ?_ ⟨k + 1, _, (fT (fT (an) Z) ad), (HS.sub T (a03 _ _)), ⟨rfl, rfl, trivial⟩, rfl, (by omega), (by exact cR ha (gD hal hend))⟩
  omega
 have c9 := a7
 try simp only [BS] at c9
 refine wT 1 [] 2 2 [] [(2, (.bool true))] rfl fun _ => ak ⟨.inr rfl, _, rfl, true, _, (an), (HS.forget ar), rfl, (by exact val_yes hlim (e7 ha (by omega)))⟩
end Go.Proofs.YtknafdcgpaejlaaDoor.m3
