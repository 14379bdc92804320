/-
 Which virtual code is valid: the program and the reference, by symbolic runs. No condition but that the table lies as laid.
-/
import Derived.Test.YtknafdcgpaejlaaDoorZGM2
noncomputable section
namespace Go.Proofs.YtknafdcgpaejlaaDoor.m3
open Go.R
set_option maxRecDepth 10000
set_option linter.unusedVariables false
set_option linter.unusedSimpArgs false
variable (ex : FuncId) {F : Fz} {H : Heap} {R : List Fp}
open m1 m2
theorem cBlk_c (n : Int) {z : Option Addr} {A : Nat} {b_c : Nat} (c : VFnT) (H : Heap) (hn : in64 n) (hc_c : HC H.get b_c 0 [(iI c.params), (iI c.regs), (.slice z c.blocks.length A)]) (E : in64 c.params) (J : in64 c.regs) : kKt ex 90 [(iI n), (.pointer (some ⟨b_c, 0, none⟩))] H fun v H' => ∃ (r : Bool), H' = H ∧ v = .bool r ∧ r = aN (c.blocks.length : Int) n := by
 refine aI Tryd.func90 rfl rfl (ah 1 rfl (wT 2 [] 3 3 [] [(3, (.bool false))] rfl fun _ => wU 1 [(5, .o (.slice z c.blocks.length A))] 3 12 [] [(3, (.bool ((decide ((0 : Int) ≤ n)) && (decide (n < (c.blocks.length : Int))))))] (fun (N : (decide ((0 : Int) ≤ n)) = true) => (ql 22 2 hc_c rfl rfl)) rfl fun _ => ak ⟨.inr rfl, _, rfl, ((decide ((0 : Int) ≤ n)) && (decide (n < (c.blocks.length : Int)))), rfl, rfl, (by rw [a0p, aV]; simp)⟩))
theorem kB (n : Int) {z : Option Addr} {J : Nat} {b_c : Nat} (c : VFnT) (H : Heap) (hn : in64 n) (hc_c : HC H.get b_c 0 [(iI c.params), (iI c.regs), (.slice z c.blocks.length J)]) (A : in64 c.params) (E : in64 c.regs) : kKt ex 90 [(iI n), (.pointer (some ⟨b_c, 0, none⟩))] H fun v H' => v = (.bool (aN (c.blocks.length : Int) n)) ∧ H' = H :=
 cq (cBlk_c ex n c H hn hc_c A E) (by rintro _ _ ⟨_, rfl, rfl, rfl⟩; exact ⟨rfl, rfl⟩)
theorem cReg_c (n : Int) {z : Option Addr} {A : Nat} {b_c : Nat} (c : VFnT) (H : Heap) (hn : in64 n) (hc_c : HC H.get b_c 0 [(iI c.params), (iI c.regs), (.slice z c.blocks.length A)]) (E : in64 c.params) (J : in64 c.regs) : kKt ex 91 [(iI n), (.pointer (some ⟨b_c, 0, none⟩))] H fun v H' => ∃ (r : Bool), H' = H ∧ v = .bool r ∧ r = aN c.regs n := by
 refine aI Tryd.func91 rfl rfl (ah 1 rfl (wT 2 [] 3 3 [] [(3, (.bool false))] rfl fun _ => wU 1 [(5, .o (iI c.regs))] 3 11 [] [(3, (.bool ((decide ((0 : Int) ≤ n)) && (decide (n < c.regs)))))] (fun (N : (decide ((0 : Int) ≤ n)) = true) => (ql 3 1 hc_c rfl rfl)) rfl fun _ => ak ⟨.inr rfl, _, rfl, ((decide ((0 : Int) ≤ n)) && (decide (n < c.regs))), rfl, rfl, (by rw [a0p, aV]; simp)⟩))
theorem cReg_c_q (n : Int) {z : Option Addr} {J : Nat} {b_c : Nat} (c : VFnT) (H : Heap) (hn : in64 n) (hc_c : HC H.get b_c 0 [(iI c.params), (iI c.regs), (.slice z c.blocks.length J)]) (A : in64 c.params) (E : in64 c.regs) : kKt ex 91 [(iI n), (.pointer (some ⟨b_c, 0, none⟩))] H fun v H' => v = (.bool (aN c.regs n)) ∧ H' = H :=
 cq (cReg_c ex n c H hn hc_c A E) (by rintro _ _ ⟨_, rfl, rfl, rfl⟩; exact ⟨rfl, rfl⟩)
theorem cRegI_c (n : Int) {z : Option Addr} {A : Nat} {b_c : Nat} (c : VFnT) (H : Heap) (hn : in64 n) (hc_c : HC H.get b_c 0 [(iI c.params), (iI c.regs), (.slice z c.blocks.length A)]) (E : in64 c.params) (J : in64 c.regs) : kKt ex 130 [(iI n), (.pointer (some ⟨b_c, 0, none⟩))] H fun v H' => ∃ (r : Bool), H' = H ∧ v = .bool r ∧ r = aN c.regs n := by
 refine aI Tryd.func130 rfl rfl (ah 1 rfl (wT 2 [] 3 3 [] [(3, (.bool false))] rfl fun _ => wU 1 [(5, .o (iI c.regs))] 3 11 [] [(3, (.bool ((decide ((0 : Int) ≤ n)) && (decide (n < c.regs)))))] (fun (N : (decide ((0 : Int) ≤ n)) = true) => (ql 3 1 hc_c rfl rfl)) rfl fun _ => ak ⟨.inr rfl, _, rfl, ((decide ((0 : Int) ≤ n)) && (decide (n < c.regs))), rfl, rfl, (by rw [a0p, aV]; simp)⟩))
theorem gg (n : Int) {z : Option Addr} {J : Nat} {b_c : Nat} (c : VFnT) (H : Heap) (hn : in64 n) (hc_c : HC H.get b_c 0 [(iI c.params), (iI c.regs), (.slice z c.blocks.length J)]) (A : in64 c.params) (E : in64 c.regs) : kKt ex 130 [(iI n), (.pointer (some ⟨b_c, 0, none⟩))] H fun v H' => v = (.bool (aN c.regs n)) ∧ H' = H :=
 cq (cRegI_c ex n c H hn hc_c A E) (by rintro _ _ ⟨_, rfl, rfl, rfl⟩; exact ⟨rfl, rfl⟩)
theorem vform_c (op : Int) (hs : HS (.of H []) F H [] R) (hop : in64 op) (hT : TB 37 tabC F) : kKt ex 131 [(iI op)] H fun v H' => ∃ (r : Int) (F' : Fz), Fz.le F F' ∧ HS (.of H []) F' H' [] R ∧ v = .int .i64 r ∧ r = aA op := by
 refine aI Tryd.func131 rfl rfl (ah 1 rfl (wT 3 [] 2 2 [] [(2, (iI 0))] rfl fun _ => wT 1 [] 5 6 [] [(6, (.bool (op == 38)))] rfl fun _ => am 1 2 (v := (op == 38)) rfl rfl rfl rfl (fun z => ?_) (fun z => ?_)))
 ·
  have J := z
  try simp only [BS] at J
  refine wT 1 [] 2 2 [] [(2, (iI 5))] rfl fun _ => ak ⟨.inr rfl, _, rfl, 5, _, fR, (HS.forget hs), rfl, (by unfold aA; split <;> first | rfl | omega)⟩
 have J := z
 try simp only [BS] at J
 refine aa (wm (iI op) rfl rfl rfl (az (ap rfl rfl rfl) rfl rfl (m1.mInfo_c ex op (HS.call hs) (by omega) hT) ?_))
 rintro _ H5 ⟨x5, o5, Z, T, A, rfl, U, V, rfl, rfl⟩
 replace A : HS _ _ _ [] _ := HS.back hs rfl A
 refine wTo 3 2 [] 10 11 [7] [(10, (.agg ⟨[(.string ⟨⟨(aM op).name.b⟩⟩), (iI (aM op).form), (.bool (aM op).ra), (.bool (aM op).wa), (.bool (aM op).rb), (.bool (aM op).mt), (iI (aM op).words)]⟩)), (11, (.bool (infO op)))] rfl fun _ => aH (bp A rfl) rfl rfl ?_
 rintro _ H8 _ ⟨N, rfl, (Y : HS _ _ _ [[(N, .cells [(.string ⟨⟨[]⟩⟩), (iI 0), (.bool false), (.bool false), (.bool false), (.bool false), (iI 0)] none false)]] _), _⟩
 refine aL (aE (q := 0) Y rfl rfl rfl rfl rfl rfl rfl rfl rfl) rfl ?_
 rintro _ H9 _ ⟨(E : HS _ _ _ [[(N, .cells [(.string ⟨⟨(aM op).name.b⟩⟩), (iI (aM op).form), (.bool (aM op).ra), (.bool (aM op).wa), (.bool (aM op).rb), (.bool (aM op).mt), (iI (aM op).words)] none false)]] _), _⟩
 refine wa (.bool (infO op)) rfl rfl rfl (ae 2 rfl (wU 1 [(1, .o (iI (aM op).form))] 12 13 [2] [(2, (iI (aM op).form))] (ql 3 1 (HS.hc E (i := 0) rfl) rfl rfl) rfl fun _ => ak ⟨.inr rfl, _, rfl, (aM op).form, _, (T), (HS.forget E), rfl, (by unfold aA; split <;> first | rfl | omega)⟩))
theorem rinfo_c (op : Int) (hs : HS (.of H []) F H [] R) (hop : in64 op) (hT : TB 37 tabC F) : kKt ex 100 [(iI op)] H fun v H' => ∃ (x : InfT) (F' : Fz), Fz.le F F' ∧ HS (.of H []) F' H' [] R ∧ v = .agg ⟨[.string ⟨⟨x.name.b⟩⟩, .int .i64 x.form, .bool x.ra, .bool x.wa, .bool x.rb, .bool x.mt, .int .i64 x.words]⟩ ∧ in64 x.form ∧ in64 x.words ∧ x = aJ op := by
 refine aI Tryd.func100 rfl rfl (ah 1 rfl (aa (aH (bp hs rfl) rfl rfl ?_)))
 rintro _ H2 _ ⟨V, rfl, (J : HS _ _ _ [[(V, .cells [(.string ⟨⟨[]⟩⟩), (iI 0), (.bool false), (.bool false), (.bool false), (.bool false), (iI 0)] none false)]] _), _⟩
 refine ae 3 rfl (wT 1 [] 5 6 [] [(6, (.bool (op == 38)))] rfl fun _ => am 1 2 (v := (op == 38)) rfl rfl rfl rfl (fun z => ?_) (fun z => ?_))
 ·
  have Y := z
  try simp only [BS] at Y
  refine aa (wTo 1 0 [] 7 7 [] [(7, (.agg ⟨[(.string ⟨⟨[]⟩⟩), (iI 5), (.bool false), (.bool true), (.bool false), (.bool false), (iI 0)]⟩))] rfl fun _ => aL (aE (q := 0) J rfl rfl rfl rfl rfl rfl rfl rfl rfl) rfl ?_)
  rintro _ H6 _ ⟨(U : HS _ _ _ [[(V, .cells [(.string ⟨⟨[]⟩⟩), (iI 5), (.bool false), (.bool true), (.bool false), (.bool false), (iI 0)] none false)]] _), _⟩
  refine ae 1 rfl (ak ⟨.inr rfl, _, (rC rfl (ldVN rfl rfl (HS.hc U (i := 0) rfl) rfl) rN), (⟨⟨[]⟩, 5, false, true, false, false, 0⟩ : InfT), _, fR, (HS.forget U), rfl, (by (dsimp only; omega)), (by (dsimp only; omega)), (by unfold aJ; split <;> first | rfl | omega)⟩)
 have Y := z
 try simp only [BS] at Y
 refine aa (wm (iI op) rfl rfl rfl (az (ap rfl rfl rfl) rfl rfl (m1.rInfo_c ex op (HS.call J) (by omega) hT) ?_))
 rintro _ H7 ⟨x7, o7, F7, ag, N, rfl, al, an, rfl, rfl⟩
 replace N : HS _ _ _ [_] _ := HS.back J rfl N
 let T : Value := (.agg ⟨[(.string ⟨⟨(aM op).name.b⟩⟩), (iI (aM op).form), (.bool (aM op).ra), (.bool (aM op).wa), (.bool (aM op).rb), (.bool (aM op).mt), (iI (aM op).words)]⟩)
 refine wTo 3 2 [] 11 12 [8] [(11, T), (12, (.bool (infO op)))] rfl fun _ => aH (bp N rfl) rfl rfl ?_
 rintro _ ar _ ⟨b9, rfl, (Z : HS _ _ _ [_, [(b9, .cells [(.string ⟨⟨[]⟩⟩), (iI 0), (.bool false), (.bool false), (.bool false), (.bool false), (iI 0)] none false)]] _), _⟩
 refine aL (aE (q := 1) Z rfl rfl rfl rfl rfl rfl rfl rfl rfl) rfl ?_
 rintro _ av _ ⟨(A : HS _ _ _ [_, [(b9, .cells [(.string ⟨⟨(aM op).name.b⟩⟩), (iI (aM op).form), (.bool (aM op).ra), (.bool (aM op).wa), (.bool (aM op).rb), (.bool (aM op).mt), (iI (aM op).words)] none false)]] _), _⟩
 refine wa (.bool (infO op)) rfl rfl rfl (ae 2 rfl (aa (wUo 1 0 [(0, .o T)] 13 13 [] [(13, T)] (qn 105 0 7 (HS.hc A (i := 1) rfl) rfl rfl rfl rfl) rfl fun _ => aL (aE (q := 0) A rfl rfl rfl rfl rfl rfl rfl rfl rfl) rfl ?_)))
 rintro _ ax _ ⟨(E : HS _ _ _ [[(V, .cells [(.string ⟨⟨(aM op).name.b⟩⟩), (iI (aM op).form), (.bool (aM op).ra), (.bool (aM op).wa), (.bool (aM op).rb), (.bool (aM op).mt), (iI (aM op).words)] none false)], _] _), _⟩
 refine ae 1 rfl (ak ⟨.inr rfl, _, (rC rfl (ldVN rfl rfl (HS.hc E (i := 0) rfl) rfl) rN), (⟨⟨(aM op).name.b⟩, (aM op).form, (aM op).ra, (aM op).wa, (aM op).rb, (aM op).mt, (aM op).words⟩ : InfT), _, (ag), (HS.forget E), rfl, (by omega), (by omega), (by unfold aJ; split <;> first | rfl | omega)⟩)
theorem rOperand_c (has : Bool) (n : Int) (regs : Int) (H : Heap) (hn : in64 n) (hregs : in64 regs) : kKt ex 132 [(.bool has), (iI n), (iI regs)] H fun v H' => ∃ (r : Bool), H' = H ∧ v = .bool r ∧ r = dr has n regs := by
 refine aI Tryd.func132 rfl rfl (ah 1 rfl (wT 3 [] 6 6 [] [(6, (.bool false))] rfl fun _ => wT 1 [] 7 7 [] [(7, (.bool has))] rfl fun _ => am 1 2 (v := has) rfl rfl rfl rfl (fun z => ?_) (fun z => ?_)))
 ·
  have A := z
  try simp only [BS] at A
  refine wT 1 [] 8 14 [6] [(6, (.bool ((decide ((0 : Int) ≤ n)) && (decide (n < regs)))))] rfl fun _ => ak ⟨.inr rfl, _, rfl, ((decide ((0 : Int) ≤ n)) && (decide (n < regs))), rfl, rfl, (by rw [a0p]; unfold dr; simp [aV, z])⟩
 have A := z
 try simp only [BS] at A
 refine wT 1 [] 15 16 [6] [(6, (.bool (n == 0)))] rfl fun _ => ak ⟨.inr rfl, _, rfl, (n == 0), rfl, rfl, (by rw [a0p]; unfold dr; simp [aV, z])⟩
theorem eL (has : Bool) (n : Int) (regs : Int) (H : Heap) (hn : in64 n) (hregs : in64 regs) : kKt ex 132 [(.bool has), (iI n), (iI regs)] H fun v H' => v = (.bool (dr has n regs)) ∧ H' = H :=
 cq (rOperand_c ex has n regs H hn hregs) (by rintro _ _ ⟨_, rfl, rfl, rfl⟩; exact ⟨rfl, rfl⟩)
set_option maxHeartbeats 1000000 in
theorem vinstr_c {al : Option Addr} {ar : Nat} (c : VFnT) {E : Option Addr} {J : Nat} (iv : VInT) (hs : HS (.of H []) F H [] R) (e1 : in64 c.params) (e2 : in64 c.regs) (e3 : SR F (.slice al c.blocks.length ar) c.blocks) (d4 : in64 iv.i.op) (ea : in64 iv.i.a) (em : in64 iv.i.b) (es : in64 iv.i.c) (et : in64 iv.i.n) (Z : SR F (.slice E iv.args.length J) iv.args) (hT : TB 37 tabC F) : kKt ex 92 [(.agg ⟨[(iI c.params), (iI c.regs), (.slice al c.blocks.length ar)]⟩), (.agg ⟨[(iI iv.i.op), (iI iv.i.a), (iI iv.i.b), (iI iv.i.c), (iI iv.i.n), (.slice E iv.args.length J)]⟩)] H fun v H' => ∃ (r : Bool) (F' : Fz), Fz.le F F' ∧ HS (.of H []) F' H' [] R ∧ v = .bool r ∧ r = eI c.params c.regs iv := by
 refine aI Tryd.func92 rfl rfl (ah 1 rfl (aa (aH (bw hs rfl rfl) rfl rfl ?_)))
 rintro _ H2 _ ⟨b1, rfl, (d2 : HS _ _ _ [[(b1, .cells [(iI c.params), (iI c.regs), (.slice al c.blocks.length ar)] none false)]] _), _⟩
 refine aH (bw d2 rfl rfl) rfl rfl ?_
 rintro _ H4 _ ⟨b3, rfl, (c9 : HS _ _ _ [_, [(b3, .cells [(iI iv.i.op), (iI iv.i.a), (iI iv.i.b), (iI iv.i.c), (iI iv.i.n), (.slice E iv.args.length J)] none false)]] _), _⟩
 let dd : Value := (.agg ⟨[(iI iv.i.op), (iI iv.i.a), (iI iv.i.b), (iI iv.i.c), (iI iv.i.n)]⟩)
 refine wa (.bool false) rfl rfl rfl (ae 2 rfl (aa (wUo 2 0 [(1, .o dd)] 13 14 [] [(14, dd)] (qn 50 0 5 (HS.hc c9 (i := 1) rfl) rfl rfl rfl rfl) rfl fun _ => aH (bp c9 rfl) rfl rfl ?_)))
 rintro _ H7 _ ⟨b6, rfl, (d3 : HS _ _ _ [_, _, [(b6, .cells [(iI 0), (iI 0), (iI 0), (iI 0), (iI 0)] none false)]] _), _⟩
 refine aL (aE (q := 2) d3 rfl rfl rfl rfl rfl rfl rfl rfl rfl) rfl ?_
 rintro _ H8 _ ⟨(ag : HS _ _ _ [_, _, [(b6, .cells [(iI iv.i.op), (iI iv.i.a), (iI iv.i.b), (iI iv.i.c), (iI iv.i.n)] none false)]] _), _⟩
 refine ae 3 rfl (wR 1 [(1, .o (iI iv.i.op)), (2, .o (.bool (alV iv.i.op))), (6, .o (.slice E iv.args.length J)), (12, .o (iI iv.i.op)), (16, .o (.slice E iv.args.length J))] 15 35 [] [(35, (.bool (((!(alV iv.i.op)) || (decide ((6 : Int) < (iv.args.length : Int)))) || ((iv.i.op != 6) && (decide ((0 : Int) < (iv.args.length : Int)))))))] (vA (ql 3 0 (HS.hc ag (i := 2) rfl) rfl rfl) (vA (m1.j3 ex iv.i.op H8) (vA (fun (A : (!(alV iv.i.op)) = false) => (ql 25 5 (HS.hc ag (i := 1) rfl) rfl rfl)) (vA (fun (A : ((!(alV iv.i.op)) || (decide ((6 : Int) < (iv.args.length : Int)))) = false) => (ql 3 0 (HS.hc ag (i := 2) rfl) rfl rfl)) (vA (fun (A : (iv.i.op != 6) = true) (V : ((!(alV iv.i.op)) || (decide ((6 : Int) < (iv.args.length : Int)))) = false) => (ql 25 5 (HS.hc ag (i := 1) rfl) rfl rfl)) trivial))))) rfl fun _ => am 1 2 (v := (((!(alV iv.i.op)) || (decide ((6 : Int) < (iv.args.length : Int)))) || ((iv.i.op != 6) && (decide ((0 : Int) < (iv.args.length : Int)))))) rfl rfl rfl rfl (fun a1 => ?_) (fun a1 => ?_))
 ·
  have ay := a1
  try simp only [BS] at ay
  have hbad := ay
  refine wT 1 [] 4 4 [] [(4, (.bool false))] rfl fun _ => ak ⟨.inr rfl, _, rfl, false, _, fR, (HS.forget ag), rfl, (vin_bad hbad)⟩
 have ay := a1
 try simp only [BS] at ay
 have hal : alV iv.i.op = true := (ay).1.1
 have h6 : iv.i.op = 6 ∨ iv.args.length = 0 := by omega
 have c8 : iv.args.length ≤ 6 := by omega
 refine wT 3 [] 36 36 [6] [(6, (.func (.func 130) #[] #[(.pointer (some ⟨b1, 0, none⟩))]))] rfl fun _ => wU 2 [(1, .o (.slice E iv.args.length J))] 37 40 [] [(38, (.slice E iv.args.length J)), (39, (iI (iv.args.length : Int))), (40, (iI 0))] (ql 25 5 (HS.hc ag (i := 1) rfl) rfl rfl) rfl fun _ => aj (fun (mm : Nat) f H' => ∃ (k : Nat) (F' : Fz), Fz.le F F' ∧ HS (Base.of H []) F' H' [[(b1, .cells [(iI c.params), (iI c.regs), (.slice al c.blocks.length ar)] none false)], [(b3, .cells [(iI iv.i.op), (iI iv.i.a), (iI iv.i.b), (iI iv.i.c), (iI iv.i.n), (.slice E iv.args.length J)] none false)], [(b6, .cells [(iI iv.i.op), (iI iv.i.a), (iI iv.i.b), (iI iv.i.c), (iI iv.i.n)] none false)]] R ∧ aD f [(2, (.pointer (some ⟨b1, 0, none⟩))), (5, (.pointer (some ⟨b6, 0, none⟩))), (6, (.func (.func 130) #[] #[(.pointer (some ⟨b1, 0, none⟩))])), (38, (.slice E iv.args.length J)), (39, (iI (iv.args.length : Int))), (40, (iI (k : Int)))] ∧ mm = iv.args.length - k ∧ (k ≤ iv.args.length) ∧ (∀ j, j < k → aN c.regs (iv.args.getD j default) = true)) _ ⟨0, _, fR, ag, ⟨rfl, rfl, rfl, rfl, rfl, rfl, trivial⟩, rfl, (by omega), (eh)⟩ ?_
 rintro e4 fd dl ⟨k, e5, N, T, c5, rfl, hk, ha⟩ dk
 refine au _ c5 (fun _ => ?_)
 clear c5
 replace hT := hT.mono N
 replace Z := Z.mono N
 refine ah 1 rfl (wT 2 [] 41 41 [] [(41, (.bool (decide ((k : Int) < (iv.args.length : Int)))))] rfl fun _ => am 4 5 (v := (decide ((k : Int) < (iv.args.length : Int)))) rfl rfl rfl rfl (fun a2 => ?_) (fun a2 => ?_))
 ·
  have b2 := a2
  try simp only [BS] at b2
  obtain ⟨e0, c7⟩ := Sv.view (SR.sv Z T)
  have f0 := fI (c7 k)
  refine wR 2 [(1, .o (iI (iv.args.getD k 0)))] 42 43 [8] [(8, (iI (iv.args.getD k 0)))] (vA (Sv.ix (j := (k : Int)) (SR.sv Z T) (by omega) (by omega)) (vA (ql 3 0 (vI (c7 k) (by omega)) rfl rfl) trivial)) rfl fun _ => wU 1 [(2, .o (.bool (aN (⟨c.params, c.regs, c.blocks⟩ : VFnT).regs (iv.args.getD k 0))))] 44 47 [] [(47, (.bool (!(aN (⟨c.params, c.regs, c.blocks⟩ : VFnT).regs (iv.args.getD k 0)))))] (gg ex (iv.args.getD k 0) (⟨c.params, c.regs, c.blocks⟩ : VFnT) dl (by omega) (HS.hc T (i := 0) rfl) (by omega) (by omega)) rfl fun _ => am 1 2 (v := (!(aN (⟨c.params, c.regs, c.blocks⟩ : VFnT).regs (iv.args.getD k 0)))) rfl rfl rfl rfl (fun a3 => ?_) (fun a3 => ?_)
  ·
   have bz := a3
   try simp only [BS] at bz
   have dt := bz
   refine wT 1 [] 4 4 [] [(4, (.bool false))] rfl fun _ => ak ⟨.inr rfl, _, rfl, false, _, (N), (HS.forget T), rfl, (vin_no (dH (by omega) dt))⟩
  have bz := a3
  try simp only [BS] at bz
  refine wU 1 [] 40 40 [48] [(40, (iI ((k : Int) + 1)))] (vi (n := (k : Int) + 1) (by omega)) rfl fun _ => dk _ _ _ ?_ ⟨k + 1, _, (N), T, ⟨rfl, rfl, rfl, rfl, rfl, rfl, trivial⟩, rfl, (by omega), (cQ ha (by assumption))⟩
  omega
 have b2 := a2
 try simp only [BS] at b2
 have hall := eY ha (by omega)
 refine wT 3 [] 1 0 [9, 10, 11, 12] [(9, (.bool false)), (10, (.bool false)), (11, (.bool false)), (12, (.bool false))] rfl fun _ => aa (wUo 2 0 [(1, .o (iI iv.i.op))] 49 50 [] [(50, (iI iv.i.op))] (ql 3 0 (HS.hc T (i := 2) rfl) rfl rfl) rfl fun _ => az (ap rfl rfl rfl) rfl rfl (vform_c ex iv.i.op (HS.call T) (by omega) hT) ?_)
 rintro _ ax ⟨f1, e6, U, z, rfl, rfl⟩
 replace z : HS _ _ _ [_, _, _] _ := HS.back T rfl z
 refine ae 3 rfl (wT 1 [] 52 53 [] [(52, (.bool (aA iv.i.op == 2)))] rfl fun _ => bN (fun f H' => ∃ (av : Bool) (bv : Bool) (dv : Bool) (nv : Bool), H' = ax ∧ aD f [(2, (.pointer (some ⟨b1, 0, none⟩))), (5, (.pointer (some ⟨b6, 0, none⟩))), (6, (.func (.func 130) #[] #[(.pointer (some ⟨b1, 0, none⟩))])), (9, (.bool av)), (10, (.bool bv)), (11, (.bool dv)), (12, (.bool nv))] ∧ (av = decide (aA iv.i.op ≠ 1)) ∧ (bv = decide (aA iv.i.op = 3 ∨ aA iv.i.op = 4 ∨ aA iv.i.op = 7)) ∧ (dv = decide (aA iv.i.op = 4)) ∧ (nv = decide (aA iv.i.op = 5 ∨ aA iv.i.op = 7))) (fun Y => ?_) ?_)
 ·
  refine am 0 1 (v := (aA iv.i.op == 2)) rfl rfl rfl rfl (fun a4 => ?_) (fun a4 => ?_)
  ·
   have b4 := a4
   try simp only [BS] at b4
   refine wT 0 [] 1 0 [9] [(9, (.bool true))] rfl fun _ => ?_
   exact Y _ _ ⟨true, false, false, false, rfl, ⟨rfl, rfl, rfl, rfl, rfl, rfl, rfl, trivial⟩, (by (symm; apply decide_eq_true; omega)), (by (symm; apply decide_eq_false; have hf := aZ hal; omega)), (by (symm; apply decide_eq_false; have hf := aZ hal; omega)), (by (symm; apply decide_eq_false; have hf := aZ hal; omega))⟩
  have b4 := a4
  try simp only [BS] at b4
  refine wT 1 [] 54 55 [] [(54, (.bool (aA iv.i.op == 3)))] rfl fun _ => am 0 1 (v := (aA iv.i.op == 3)) rfl rfl rfl rfl (fun a5 => ?_) (fun a5 => ?_)
  ·
   have b7 := a5
   try simp only [BS] at b7
   refine wT 0 [] 1 0 [9, 10] [(9, (.bool true)), (10, (.bool true))] rfl fun _ => ?_
   exact Y _ _ ⟨true, true, false, false, rfl, ⟨rfl, rfl, rfl, rfl, rfl, rfl, rfl, trivial⟩, (by (symm; apply decide_eq_true; omega)), (by (symm; apply decide_eq_true; omega)), (by (symm; apply decide_eq_false; have hf := aZ hal; omega)), (by (symm; apply decide_eq_false; have hf := aZ hal; omega))⟩
  have b7 := a5
  try simp only [BS] at b7
  refine wT 1 [] 56 57 [] [(56, (.bool (aA iv.i.op == 4)))] rfl fun _ => am 0 1 (v := (aA iv.i.op == 4)) rfl rfl rfl rfl (fun a6 => ?_) (fun a6 => ?_)
  ·
   have b9 := a6
   try simp only [BS] at b9
   refine wT 0 [] 1 0 [9, 10, 11] [(9, (.bool true)), (10, (.bool true)), (11, (.bool true))] rfl fun _ => ?_
   exact Y _ _ ⟨true, true, true, false, rfl, ⟨rfl, rfl, rfl, rfl, rfl, rfl, rfl, trivial⟩, (by (symm; apply decide_eq_true; omega)), (by (symm; apply decide_eq_true; omega)), (by (symm; apply decide_eq_true; omega)), (by (symm; apply decide_eq_false; have hf := aZ hal; omega))⟩
  have b9 := a6
  try simp only [BS] at b9
  refine wT 1 [] 58 59 [] [(58, (.bool (aA iv.i.op == 5)))] rfl fun _ => am 0 1 (v := (aA iv.i.op == 5)) rfl rfl rfl rfl (fun a7 => ?_) (fun a7 => ?_)
  ·
   have cc := a7
   try simp only [BS] at cc
   refine wT 0 [] 1 0 [9, 12] [(9, (.bool true)), (12, (.bool true))] rfl fun _ => ?_
   exact Y _ _ ⟨true, false, false, true, rfl, ⟨rfl, rfl, rfl, rfl, rfl, rfl, rfl, trivial⟩, (by (symm; apply decide_eq_true; omega)), (by (symm; apply decide_eq_false; have hf := aZ hal; omega)), (by (symm; apply decide_eq_false; have hf := aZ hal; omega)), (by (symm; apply decide_eq_true; omega))⟩
  have cc := a7
  try simp only [BS] at cc
  refine wT 1 [] 60 61 [] [(60, (.bool (aA iv.i.op == 7)))] rfl fun _ => am 0 0 (v := (aA iv.i.op == 7)) rfl rfl rfl rfl (fun a8 => ?_) (fun a8 => ?_)
  ·
   have ch := a8
   try simp only [BS] at ch
   refine wT 0 [] 1 0 [9, 10, 12] [(9, (.bool true)), (10, (.bool true)), (12, (.bool true))] rfl fun _ => ?_
   exact Y _ _ ⟨true, true, false, true, rfl, ⟨rfl, rfl, rfl, rfl, rfl, rfl, rfl, trivial⟩, (by (symm; apply decide_eq_true; omega)), (by (symm; apply decide_eq_true; omega)), (by (symm; apply decide_eq_false; have hf := aZ hal; omega)), (by (symm; apply decide_eq_true; omega))⟩
  have ch := a8
  try simp only [BS] at ch
  exact Y _ _ ⟨false, false, false, false, rfl, ⟨rfl, rfl, rfl, rfl, rfl, rfl, rfl, trivial⟩, (by (symm; apply decide_eq_false; have hf := aZ hal; omega)), (by (symm; apply decide_eq_false; have hf := aZ hal; omega)), (by (symm; apply decide_eq_false; have hf := aZ hal; omega)), (by (symm; apply decide_eq_false; have hf := aZ hal; omega))⟩
 skip
 rintro fi ax ⟨av, bv, dv, nv, rfl, c6, hav, hbv, hdv, hnv⟩
 refine au _ c6 (fun _ => ?_)
 clear c6
 refine ah 4 rfl (wR 1 [(4, .o (iI iv.i.a)), (5, .o (.bool (aN (⟨c.params, c.regs, c.blocks⟩ : VFnT).regs iv.i.a))), (13, .o (iI iv.i.b)), (14, .o (.bool (aN (⟨c.params, c.regs, c.blocks⟩ : VFnT).regs iv.i.b))), (23, .o (iI iv.i.c)), (24, .o (.bool (aN (⟨c.params, c.regs, c.blocks⟩ : VFnT).regs iv.i.c))), (33, .o (iI iv.i.a)), (42, .o (iI iv.i.b)), (51, .o (iI iv.i.c)), (60, .o (iI iv.i.n))] 62 125 [] [(125, (.bool (((((((av && (!(aN (⟨c.params, c.regs, c.blocks⟩ : VFnT).regs iv.i.a))) || (bv && (!(aN (⟨c.params, c.regs, c.blocks⟩ : VFnT).regs iv.i.b)))) || (dv && (!(aN (⟨c.params, c.regs, c.blocks⟩ : VFnT).regs iv.i.c)))) || ((!av) && (iv.i.a != 0))) || ((!bv) && (iv.i.b != 0))) || ((!dv) && (iv.i.c != 0))) || ((!nv) && (iv.i.n != 0)))))] (vA (fun (A : av = true) => (ql 3 1 (HS.hc z (i := 2) rfl) rfl rfl)) (vA (fun (A : av = true) => (gg ex iv.i.a (⟨c.params, c.regs, c.blocks⟩ : VFnT) ax (by (try simp only [BS] at A); omega) (HS.hc z (i := 0) rfl) (by (try simp only [BS] at A); omega) (by (try simp only [BS] at A); omega))) (vA (fun (A : bv = true) (V : (av && (!(aN (⟨c.params, c.regs, c.blocks⟩ : VFnT).regs iv.i.a))) = false) => (ql 3 2 (HS.hc z (i := 2) rfl) rfl rfl)) (vA (fun (A : bv = true) (V : (av && (!(aN (⟨c.params, c.regs, c.blocks⟩ : VFnT).regs iv.i.a))) = false) => (gg ex iv.i.b (⟨c.params, c.regs, c.blocks⟩ : VFnT) ax (by (try simp only [BS] at A V); omega) (HS.hc z (i := 0) rfl) (by (try simp only [BS] at A V); omega) (by (try simp only [BS] at A V); omega))) (vA (fun (A : dv = true) (V : ((av && (!(aN (⟨c.params, c.regs, c.blocks⟩ : VFnT).regs iv.i.a))) || (bv && (!(aN (⟨c.params, c.regs, c.blocks⟩ : VFnT).regs iv.i.b)))) = false) => (ql 3 3 (HS.hc z (i := 2) rfl) rfl rfl)) (vA (fun (A : dv = true) (V : ((av && (!(aN (⟨c.params, c.regs, c.blocks⟩ : VFnT).regs iv.i.a))) || (bv && (!(aN (⟨c.params, c.regs, c.blocks⟩ : VFnT).regs iv.i.b)))) = false) => (gg ex iv.i.c (⟨c.params, c.regs, c.blocks⟩ : VFnT) ax (by (try simp only [BS] at A V); omega) (HS.hc z (i := 0) rfl) (by (try simp only [BS] at A V); omega) (by (try simp only [BS] at A V); omega))) (vA (fun (A : (!av) = true) (V : (((av && (!(aN (⟨c.params, c.regs, c.blocks⟩ : VFnT).regs iv.i.a))) || (bv && (!(aN (⟨c.params, c.regs, c.blocks⟩ : VFnT).regs iv.i.b)))) || (dv && (!(aN (⟨c.params, c.regs, c.blocks⟩ : VFnT).regs iv.i.c)))) = false) => (ql 3 1 (HS.hc z (i := 2) rfl) rfl rfl)) (vA (fun (A : (!bv) = true) (V : ((((av && (!(aN (⟨c.params, c.regs, c.blocks⟩ : VFnT).regs iv.i.a))) || (bv && (!(aN (⟨c.params, c.regs, c.blocks⟩ : VFnT).regs iv.i.b)))) || (dv && (!(aN (⟨c.params, c.regs, c.blocks⟩ : VFnT).regs iv.i.c)))) || ((!av) && (iv.i.a != 0))) = false) => (ql 3 2 (HS.hc z (i := 2) rfl) rfl rfl)) (vA (fun (A : (!dv) = true) (V : (((((av && (!(aN (⟨c.params, c.regs, c.blocks⟩ : VFnT).regs iv.i.a))) || (bv && (!(aN (⟨c.params, c.regs, c.blocks⟩ : VFnT).regs iv.i.b)))) || (dv && (!(aN (⟨c.params, c.regs, c.blocks⟩ : VFnT).regs iv.i.c)))) || ((!av) && (iv.i.a != 0))) || ((!bv) && (iv.i.b != 0))) = false) => (ql 3 3 (HS.hc z (i := 2) rfl) rfl rfl)) (vA (fun (A : (!nv) = true) (V : ((((((av && (!(aN (⟨c.params, c.regs, c.blocks⟩ : VFnT).regs iv.i.a))) || (bv && (!(aN (⟨c.params, c.regs, c.blocks⟩ : VFnT).regs iv.i.b)))) || (dv && (!(aN (⟨c.params, c.regs, c.blocks⟩ : VFnT).regs iv.i.c)))) || ((!av) && (iv.i.a != 0))) || ((!bv) && (iv.i.b != 0))) || ((!dv) && (iv.i.c != 0))) = false) => (ql 2 4 (HS.hc z (i := 2) rfl) rfl rfl)) trivial)))))))))) rfl fun _ => am 1 3 (v := (((((((av && (!(aN (⟨c.params, c.regs, c.blocks⟩ : VFnT).regs iv.i.a))) || (bv && (!(aN (⟨c.params, c.regs, c.blocks⟩ : VFnT).regs iv.i.b)))) || (dv && (!(aN (⟨c.params, c.regs, c.blocks⟩ : VFnT).regs iv.i.c)))) || ((!av) && (iv.i.a != 0))) || ((!bv) && (iv.i.b != 0))) || ((!dv) && (iv.i.c != 0))) || ((!nv) && (iv.i.n != 0)))) rfl rfl rfl rfl (fun ad => ?_) (fun ad => ?_))
 ·
  have ci := ad
  try simp only [BS] at ci
  have d1 := ad
  refine wT 1 [] 4 4 [] [(4, (.bool false))] rfl fun _ => ak ⟨.inr rfl, _, rfl, false, _, (fT (N) U), (HS.forget z), rfl, (vin_bad3v hal h6 c8 hall hav hbv hdv hnv d1)⟩
 have ci := ad
 try simp only [BS] at ci
 have hgood := vin_good3v (params := c.params) hal h6 c8 hall hav hbv hdv hnv ad
 refine wU 3 [(1, .o (iI iv.i.op))] 126 127 [] [(127, (iI iv.i.op))] (ql 3 0 (HS.hc z (i := 2) rfl) rfl rfl) rfl fun _ => wT 1 [] 128 129 [] [(128, (.bool (iv.i.op == 33)))] rfl fun _ => am 1 1 (v := (iv.i.op == 33)) rfl rfl rfl rfl (fun a9 => ?_) (fun a9 => ?_)
 ·
  have cl := a9
  try simp only [BS] at cl
  refine wR 1 [(1, .o (iI iv.i.n)), (5, .o (iI iv.i.n))] 130 137 [4] [(4, (.bool ((decide ((-4194304 : Int) ≤ iv.i.n)) && (decide (iv.i.n < 4194304)))))] (vA (ql 2 4 (HS.hc z (i := 2) rfl) rfl rfl) (vA (fun (A : (decide ((-4194304 : Int) ≤ iv.i.n)) = true) => (ql 2 4 (HS.hc z (i := 2) rfl) rfl rfl)) trivial)) rfl fun _ => ak ⟨.inr rfl, _, rfl, ((decide ((-4194304 : Int) ≤ iv.i.n)) && (decide (iv.i.n < 4194304))), _, (fT (N) U), (HS.forget z), rfl, (by rw [hgood.1]; first | exact (dh hal hgood.2 (by omega) (by omega) (by omega) (by omega)).symm | (unfold gy; (repeat' split) <;> first | omega | rfl | (rw [a0p] <;> simp)))⟩
 have cl := a9
 try simp only [BS] at cl
 refine wT 1 [] 138 139 [] [(138, (.bool (iv.i.op == 6)))] rfl fun _ => am 1 2 (v := (iv.i.op == 6)) rfl rfl rfl rfl (fun bb => ?_) (fun bb => ?_)
 ·
  have co := bb
  try simp only [BS] at co
  refine wR 1 [(1, .o (iI iv.i.n)), (5, .o (iI iv.i.n))] 140 147 [4] [(4, (.bool ((decide ((0 : Int) ≤ iv.i.n)) && (decide (iv.i.n < 8)))))] (vA (ql 2 4 (HS.hc z (i := 2) rfl) rfl rfl) (vA (fun (A : (decide ((0 : Int) ≤ iv.i.n)) = true) => (ql 2 4 (HS.hc z (i := 2) rfl) rfl rfl)) trivial)) rfl fun _ => ak ⟨.inr rfl, _, rfl, ((decide ((0 : Int) ≤ iv.i.n)) && (decide (iv.i.n < 8))), _, (fT (N) U), (HS.forget z), rfl, (by rw [hgood.1]; first | exact (dh hal hgood.2 (by omega) (by omega) (by omega) (by omega)).symm | (unfold gy; (repeat' split) <;> first | omega | rfl | (rw [a0p] <;> simp)))⟩
 have co := bb
 try simp only [BS] at co
 refine wT 1 [] 148 149 [] [(148, (.bool (iv.i.op == 34)))] rfl fun _ => am 1 0 (v := (iv.i.op == 34)) rfl rfl rfl rfl (fun an => ?_) (fun an => ?_)
 ·
  have c0 := an
  try simp only [BS] at c0
  refine bn 1 (v := (iv.i.op == 34)) rfl an rfl rfl (wR 1 [(1, .o (iI iv.i.n)), (5, .o (iI iv.i.n))] 151 158 [4] [(4, (.bool ((decide ((0 : Int) ≤ iv.i.n)) && (decide (iv.i.n < 4)))))] (vA (ql 2 4 (HS.hc z (i := 2) rfl) rfl rfl) (vA (fun (A : (decide ((0 : Int) ≤ iv.i.n)) = true) => (ql 2 4 (HS.hc z (i := 2) rfl) rfl rfl)) trivial)) rfl fun _ => ak ⟨.inr rfl, _, rfl, ((decide ((0 : Int) ≤ iv.i.n)) && (decide (iv.i.n < 4))), _, (fT (N) U), (HS.forget z), rfl, (by rw [hgood.1]; first | exact (dh hal hgood.2 (by omega) (by omega) (by omega) (by omega)).symm | (unfold gy; (repeat' split) <;> first | omega | rfl | (rw [a0p] <;> simp)))⟩)
 have c0 := an
 try simp only [BS] at c0
 refine wT 1 [] 148 150 [] [(148, (.bool (iv.i.op == 35)))] rfl fun _ => am 1 1 (v := (iv.i.op == 35)) rfl rfl rfl rfl (fun bk => ?_) (fun bk => ?_)
 ·
  have c3 := bk
  try simp only [BS] at c3
  refine wR 1 [(1, .o (iI iv.i.n)), (5, .o (iI iv.i.n))] 151 158 [4] [(4, (.bool ((decide ((0 : Int) ≤ iv.i.n)) && (decide (iv.i.n < 4)))))] (vA (ql 2 4 (HS.hc z (i := 2) rfl) rfl rfl) (vA (fun (A : (decide ((0 : Int) ≤ iv.i.n)) = true) => (ql 2 4 (HS.hc z (i := 2) rfl) rfl rfl)) trivial)) rfl fun _ => ak ⟨.inr rfl, _, rfl, ((decide ((0 : Int) ≤ iv.i.n)) && (decide (iv.i.n < 4))), _, (fT (N) U), (HS.forget z), rfl, (by rw [hgood.1]; first | exact (dh hal hgood.2 (by omega) (by omega) (by omega) (by omega)).symm | (unfold gy; (repeat' split) <;> first | omega | rfl | (rw [a0p] <;> simp)))⟩
 have c3 := bk
 try simp only [BS] at c3
 refine wT 1 [] 159 160 [] [(159, (.bool (iv.i.op == 38)))] rfl fun _ => am 1 3 (v := (iv.i.op == 38)) rfl rfl rfl rfl (fun bl => ?_) (fun bl => ?_)
 ·
  have c4 := bl
  try simp only [BS] at c4
  refine wR 1 [(1, .o (iI iv.i.n)), (5, .o (iI iv.i.n)), (7, .o (iI c.params))] 161 170 [4] [(4, (.bool ((decide ((0 : Int) ≤ iv.i.n)) && (decide (iv.i.n < c.params)))))] (vA (ql 2 4 (HS.hc z (i := 2) rfl) rfl rfl) (vA (fun (A : (decide ((0 : Int) ≤ iv.i.n)) = true) => (ql 2 4 (HS.hc z (i := 2) rfl) rfl rfl)) (vA (fun (A : (decide ((0 : Int) ≤ iv.i.n)) = true) => (ql 3 0 (HS.hc z (i := 0) rfl) rfl rfl)) trivial))) rfl fun _ => ak ⟨.inr rfl, _, rfl, ((decide ((0 : Int) ≤ iv.i.n)) && (decide (iv.i.n < c.params))), _, (fT (N) U), (HS.forget z), rfl, (by rw [hgood.1]; first | exact (dh hal hgood.2 (by omega) (by omega) (by omega) (by omega)).symm | (unfold gy; (repeat' split) <;> first | omega | rfl | (rw [a0p] <;> simp)))⟩
 have c4 := bl
 try simp only [BS] at c4
 refine wT 1 [] 4 4 [] [(4, (.bool true))] rfl fun _ => ak ⟨.inr rfl, _, rfl, true, _, (fT (N) U), (HS.forget z), rfl, (by rw [hgood.1]; first | exact (dh hal hgood.2 (by omega) (by omega) (by omega) (by omega)).symm | (unfold gy; (repeat' split) <;> first | omega | rfl | (rw [a0p] <;> simp)))⟩
set_option maxHeartbeats 1000000 in
theorem rinstr_c {N : Option Addr} {T : Nat} (iv : VInT) {ad : Option Addr} {al : Nat} (c : VFnT) (hs : HS (.of H []) F H [] R) (c7 : in64 iv.i.op) (c8 : in64 iv.i.a) (c9 : in64 iv.i.b) (dd : in64 iv.i.c) (dk : in64 iv.i.n) (V : SR F (.slice N iv.args.length T) iv.args) (ds : in64 c.params) (dt : in64 c.regs) (dv : SR F (.slice ad c.blocks.length al) c.blocks) (hT : TB 37 tabC F) : kKt ex 99 [(.agg ⟨[(iI iv.i.op), (iI iv.i.a), (iI iv.i.b), (iI iv.i.c), (iI iv.i.n), (.slice N iv.args.length T)]⟩), (.agg ⟨[(iI c.params), (iI c.regs), (.slice ad c.blocks.length al)]⟩)] H fun v H' => ∃ (r : Bool) (F' : Fz), Fz.le F F' ∧ HS (.of H []) F' H' [] R ∧ v = .bool r ∧ r = eI c.params c.regs iv := by
 refine aI Tryd.func99 rfl rfl (ah 1 rfl (aa (aH (bw hs rfl rfl) rfl rfl ?_)))
 rintro _ H2 _ ⟨b1, rfl, (c5 : HS _ _ _ [[(b1, .cells [(iI iv.i.op), (iI iv.i.a), (iI iv.i.b), (iI iv.i.c), (iI iv.i.n), (.slice N iv.args.length T)] none false)]] _), _⟩
 refine aH (bw c5 rfl rfl) rfl rfl ?_
 rintro _ H4 _ ⟨b3, rfl, (b9 : HS _ _ _ [_, [(b3, .cells [(iI c.params), (iI c.regs), (.slice ad c.blocks.length al)] none false)]] _), _⟩
 let cc : Value := (.agg ⟨[(iI iv.i.op), (iI iv.i.a), (iI iv.i.b), (iI iv.i.c), (iI iv.i.n)]⟩)
 refine wa (.bool false) rfl rfl rfl (ae 2 rfl (aa (wUo 2 0 [(1, .o cc)] 10 11 [] [(11, cc)] (qn 50 0 5 (HS.hc b9 (i := 0) rfl) rfl rfl rfl rfl) rfl fun _ => aH (bp b9 rfl) rfl rfl ?_)))
 rintro _ H7 _ ⟨b6, rfl, (c6 : HS _ _ _ [_, _, [(b6, .cells [(iI 0), (iI 0), (iI 0), (iI 0), (iI 0)] none false)]] _), _⟩
 refine aL (aE (q := 2) c6 rfl rfl rfl rfl rfl rfl rfl rfl rfl) rfl ?_
 rintro _ H8 _ ⟨(Z : HS _ _ _ [_, _, [(b6, .cells [(iI iv.i.op), (iI iv.i.a), (iI iv.i.b), (iI iv.i.c), (iI iv.i.n)] none false)]] _), _⟩
 refine ae 3 rfl (wR 1 [(1, .o (iI iv.i.op)), (2, .o (.bool (alV iv.i.op))), (6, .o (iI iv.i.op)), (10, .o (.slice N iv.args.length T)), (17, .o (.slice N iv.args.length T))] 12 32 [] [(32, (.bool (((!(alV iv.i.op)) || ((iv.i.op != 6) && (decide ((0 : Int) < (iv.args.length : Int))))) || (decide ((6 : Int) < (iv.args.length : Int))))))] (vA (ql 3 0 (HS.hc Z (i := 2) rfl) rfl rfl) (vA (m1.ralw_c_q ex iv.i.op H8) (vA (fun (A : (!(alV iv.i.op)) = false) => (ql 3 0 (HS.hc Z (i := 2) rfl) rfl rfl)) (vA (fun (A : (iv.i.op != 6) = true) (g2 : (!(alV iv.i.op)) = false) => (ql 25 5 (HS.hc Z (i := 0) rfl) rfl rfl)) (vA (fun (A : ((!(alV iv.i.op)) || ((iv.i.op != 6) && (decide ((0 : Int) < (iv.args.length : Int))))) = false) => (ql 25 5 (HS.hc Z (i := 0) rfl) rfl rfl)) trivial))))) rfl fun _ => am 1 3 (v := (((!(alV iv.i.op)) || ((iv.i.op != 6) && (decide ((0 : Int) < (iv.args.length : Int))))) || (decide ((6 : Int) < (iv.args.length : Int))))) rfl rfl rfl rfl (fun ar => ?_) (fun ar => ?_))
 ·
  have an := ar
  try simp only [BS] at an
  have hbad := an
  refine wT 1 [] 4 4 [] [(4, (.bool false))] rfl fun _ => ak ⟨.inr rfl, _, rfl, false, _, fR, (HS.forget Z), rfl, (vin_bad2 hbad)⟩
 have an := ar
 try simp only [BS] at an
 have hal : alV iv.i.op = true := (an).1.1
 have h6 : iv.i.op = 6 ∨ iv.args.length = 0 := by omega
 have b7 : iv.args.length ≤ 6 := by omega
 refine wT 2 [] 1 0 [6] [(6, (iI 0))] rfl fun _ => aj (fun (mm : Nat) f H' => ∃ (k : Nat) (F' : Fz), Fz.le F F' ∧ HS (Base.of H []) F' H' [[(b1, .cells [(iI iv.i.op), (iI iv.i.a), (iI iv.i.b), (iI iv.i.c), (iI iv.i.n), (.slice N iv.args.length T)] none false)], [(b3, .cells [(iI c.params), (iI c.regs), (.slice ad c.blocks.length al)] none false)], [(b6, .cells [(iI iv.i.op), (iI iv.i.a), (iI iv.i.b), (iI iv.i.c), (iI iv.i.n)] none false)]] R ∧ aD f [(2, (.pointer (some ⟨b1, 0, none⟩))), (3, (.pointer (some ⟨b3, 0, none⟩))), (5, (.pointer (some ⟨b6, 0, none⟩))), (6, (iI (k : Int)))] ∧ mm = iv.args.length - k ∧ (k ≤ iv.args.length) ∧ (∀ j, j < k → aN c.regs (iv.args.getD j default) = true)) _ ⟨0, _, fR, Z, ⟨rfl, rfl, rfl, rfl, trivial⟩, rfl, (by omega), (eh)⟩ ?_
 rintro d1 ea d4 ⟨k, d2, E, J, b2, rfl, hk, ha⟩ cl
 refine au _ b2 (fun _ => ?_)
 clear b2
 replace hT := hT.mono E
 replace V := V.mono E
 refine ah 2 rfl (wU 1 [(2, .o (.slice N iv.args.length T))] 33 37 [] [(37, (.bool (decide ((k : Int) < (iv.args.length : Int)))))] (ql 25 5 (HS.hc J (i := 0) rfl) rfl rfl) rfl fun _ => am 4 5 (v := (decide ((k : Int) < (iv.args.length : Int)))) rfl rfl rfl rfl (fun av => ?_) (fun av => ?_))
 ·
  have a6 := av
  try simp only [BS] at a6
  obtain ⟨dn, a4⟩ := Sv.view (SR.sv V J)
  have em := fI (a4 k)
  refine wRD 1 [(1, .o (.slice N iv.args.length T)), (4, .o (iI (iv.args.getD k 0))), (8, .o (.slice N iv.args.length T)), (11, .o (iI (iv.args.getD k 0))), (13, .o (iI c.regs))] 40 55 [] [(55, (.bool ((decide ((iv.args.getD k 0) < 0)) || (decide (c.regs ≤ (iv.args.getD k 0))))))] (vA (ql 25 5 (hc0 (HS.hc J (i := 0) rfl)) rfl rfl) (vA (Sv.ix (j := (k : Int)) (SR.sv V J) (by omega) (by omega)) (vA (ql 3 0 (hc0 (vI (a4 k) (by omega))) rfl rfl) (vA (fun (A : (decide ((iv.args.getD k 0) < 0)) = false) => (ql 25 5 (hc0 (HS.hc J (i := 0) rfl)) rfl rfl)) (vA (fun (A : (decide ((iv.args.getD k 0) < 0)) = false) => (Sv.ix (j := (k : Int)) (SR.sv V J) (by (try simp only [BS] at A); omega) (by (try simp only [BS] at A); omega))) (vA (fun (A : (decide ((iv.args.getD k 0) < 0)) = false) => (ql 3 0 (hc0 (vI (a4 k) (by (try simp only [BS] at A); omega))) rfl rfl)) (vA (fun (A : (decide ((iv.args.getD k 0) < 0)) = false) => (ql 3 1 (hc0 (HS.hc J (i := 1) rfl)) rfl rfl)) trivial))))))) rfl rfl fun _ => am 1 2 (v := ((decide ((iv.args.getD k 0) < 0)) || (decide (c.regs ≤ (iv.args.getD k 0))))) rfl rfl rfl rfl (fun ax => ?_) (fun ax => ?_)
  ·
   have a7 := ax
   try simp only [BS] at a7
   refine wT 1 [] 4 4 [] [(4, (.bool false))] rfl fun _ => ak ⟨.inr rfl, _, rfl, false, _, (E), (HS.forget J), rfl, (vin_no (dH (k := k) (by omega) (cU.2 (show ¬ (0 ≤ iv.args.getD k 0 ∧ iv.args.getD k 0 < c.regs) by omega))))⟩
  have a7 := ax
  try simp only [BS] at a7
  refine wU 1 [] 38 39 [6] [(6, (iI ((k : Int) + 1)))] (vi (n := (k : Int) + 1) (by omega)) rfl fun _ => cl _ _ _ ?_ ⟨k + 1, _, (E), J, ⟨rfl, rfl, rfl, rfl, trivial⟩, rfl, (by omega), (cQ ha (aV.2 (show 0 ≤ iv.args.getD k 0 ∧ iv.args.getD k 0 < c.regs by omega)))⟩
  omega
 have a6 := av
 try simp only [BS] at a6
 have hall := eY ha (by omega)
 refine aa (wUo 2 0 [(1, .o (iI iv.i.op))] 56 57 [] [(57, (iI iv.i.op))] (ql 3 0 (HS.hc J (i := 2) rfl) rfl rfl) rfl fun _ => az (ap rfl rfl rfl) rfl rfl (rinfo_c ex iv.i.op (HS.call J) (by omega) hT) ?_)
 rintro _ a5 ⟨es, d3, U, z, rfl, co, c0, rfl⟩
 replace z : HS _ _ _ [_, _, _] _ := HS.back J rfl z
 refine wTo 2 3 [] 59 59 [7] [(7, (iI (aJ iv.i.op).form))] rfl fun _ => ae 2 rfl (wT 2 [] 60 61 [8] [(8, (.bool ((aJ iv.i.op).form != 1)))] rfl fun _ => wT 3 [] 62 71 [9] [(9, (.bool ((((aJ iv.i.op).form == 3) || ((aJ iv.i.op).form == 4)) || ((aJ iv.i.op).form == 7))))] rfl fun _ => wR 1 [(2, .o (iI iv.i.a)), (4, .o (iI c.regs)), (5, .o (.bool (dr ((aJ iv.i.op).form != 1) iv.i.a c.regs))), (10, .o (iI iv.i.b)), (12, .o (iI c.regs)), (13, .o (.bool (dr ((((aJ iv.i.op).form == 3) || ((aJ iv.i.op).form == 4)) || ((aJ iv.i.op).form == 7)) iv.i.b c.regs))), (20, .o (iI iv.i.c)), (22, .o (iI c.regs)), (23, .o (.bool (dr ((aJ iv.i.op).form == 4) iv.i.c c.regs)))] 72 97 [] [(97, (.bool (((!(dr ((aJ iv.i.op).form != 1) iv.i.a c.regs)) || (!(dr ((((aJ iv.i.op).form == 3) || ((aJ iv.i.op).form == 4)) || ((aJ iv.i.op).form == 7)) iv.i.b c.regs))) || (!(dr ((aJ iv.i.op).form == 4) iv.i.c c.regs)))))] (vA (ql 3 1 (HS.hc z (i := 2) rfl) rfl rfl) (vA (ql 3 1 (HS.hc z (i := 1) rfl) rfl rfl) (vA (eL ex ((aJ iv.i.op).form != 1) iv.i.a c.regs a5 (by omega) (by omega)) (vA (fun (A : (!(dr ((aJ iv.i.op).form != 1) iv.i.a c.regs)) = false) => (ql 3 2 (HS.hc z (i := 2) rfl) rfl rfl)) (vA (fun (A : (!(dr ((aJ iv.i.op).form != 1) iv.i.a c.regs)) = false) => (ql 3 1 (HS.hc z (i := 1) rfl) rfl rfl)) (vA (fun (A : (!(dr ((aJ iv.i.op).form != 1) iv.i.a c.regs)) = false) => (eL ex ((((aJ iv.i.op).form == 3) || ((aJ iv.i.op).form == 4)) || ((aJ iv.i.op).form == 7)) iv.i.b c.regs a5 (by (try simp only [BS] at A); omega) (by (try simp only [BS] at A); omega))) (vA (fun (A : ((!(dr ((aJ iv.i.op).form != 1) iv.i.a c.regs)) || (!(dr ((((aJ iv.i.op).form == 3) || ((aJ iv.i.op).form == 4)) || ((aJ iv.i.op).form == 7)) iv.i.b c.regs))) = false) => (ql 3 3 (HS.hc z (i := 2) rfl) rfl rfl)) (vA (fun (A : ((!(dr ((aJ iv.i.op).form != 1) iv.i.a c.regs)) || (!(dr ((((aJ iv.i.op).form == 3) || ((aJ iv.i.op).form == 4)) || ((aJ iv.i.op).form == 7)) iv.i.b c.regs))) = false) => (ql 3 1 (HS.hc z (i := 1) rfl) rfl rfl)) (vA (fun (A : ((!(dr ((aJ iv.i.op).form != 1) iv.i.a c.regs)) || (!(dr ((((aJ iv.i.op).form == 3) || ((aJ iv.i.op).form == 4)) || ((aJ iv.i.op).form == 7)) iv.i.b c.regs))) = false) => (eL ex ((aJ iv.i.op).form == 4) iv.i.c c.regs a5 (by (try simp only [BS] at A); omega) (by (try simp only [BS] at A); omega))) trivial))))))))) rfl fun _ => am 1 3 (v := (((!(dr ((aJ iv.i.op).form != 1) iv.i.a c.regs)) || (!(dr ((((aJ iv.i.op).form == 3) || ((aJ iv.i.op).form == 4)) || ((aJ iv.i.op).form == 7)) iv.i.b c.regs))) || (!(dr ((aJ iv.i.op).form == 4) iv.i.c c.regs)))) rfl rfl rfl rfl (fun Y => ?_) (fun Y => ?_))
 ·
  have a8 := Y
  try simp only [BS] at a8
  have c4 := Y
  refine wT 1 [] 4 4 [] [(4, (.bool false))] rfl fun _ => ak ⟨.inr rfl, _, rfl, false, _, (fT (E) U), (HS.forget z), rfl, (vin_rbad hal h6 b7 hall c4)⟩
 have a8 := Y
 try simp only [BS] at a8
 have hgood := vin_rgood (params := c.params) hal h6 b7 hall Y
 refine wU 3 [(1, .o (iI iv.i.op))] 98 99 [] [(99, (iI iv.i.op))] (ql 3 0 (HS.hc z (i := 2) rfl) rfl rfl) rfl fun _ => wT 1 [] 100 101 [] [(100, (.bool (iv.i.op == 13)))] rfl fun _ => am 1 1 (v := (iv.i.op == 13)) rfl rfl rfl rfl (fun ay => ?_) (fun ay => ?_)
 ·
  have a9 := ay
  try simp only [BS] at a9
  refine wT 1 [] 4 4 [] [(4, (.bool true))] rfl fun _ => ak ⟨.inr rfl, _, rfl, true, _, (fT (E) U), (HS.forget z), rfl, (by rw [hgood] <;> (first | exact (dh hal hgood.2 (by omega) (by omega) (by omega) (by omega)).symm | (unfold gy; (repeat' split) <;> first | omega | rfl | (rw [a0p] <;> simp))))⟩
 have a9 := ay
 try simp only [BS] at a9
 refine wT 1 [] 102 103 [] [(102, (.bool (iv.i.op == 33)))] rfl fun _ => am 1 1 (v := (iv.i.op == 33)) rfl rfl rfl rfl (fun a0 => ?_) (fun a0 => ?_)
 ·
  have bb := a0
  try simp only [BS] at bb
  refine wR 1 [(1, .o (iI iv.i.n)), (5, .o (iI iv.i.n))] 104 111 [4] [(4, (.bool ((decide ((-4194304 : Int) ≤ iv.i.n)) && (decide (iv.i.n < 4194304)))))] (vA (ql 2 4 (HS.hc z (i := 2) rfl) rfl rfl) (vA (fun (A : (decide ((-4194304 : Int) ≤ iv.i.n)) = true) => (ql 2 4 (HS.hc z (i := 2) rfl) rfl rfl)) trivial)) rfl fun _ => ak ⟨.inr rfl, _, rfl, ((decide ((-4194304 : Int) ≤ iv.i.n)) && (decide (iv.i.n < 4194304))), _, (fT (E) U), (HS.forget z), rfl, (by rw [hgood] <;> (first | exact (dh hal hgood.2 (by omega) (by omega) (by omega) (by omega)).symm | (unfold gy; (repeat' split) <;> first | omega | rfl | (rw [a0p] <;> simp))))⟩
 have bb := a0
 try simp only [BS] at bb
 refine wT 1 [] 112 113 [] [(112, (.bool (iv.i.op == 6)))] rfl fun _ => am 1 2 (v := (iv.i.op == 6)) rfl rfl rfl rfl (fun a1 => ?_) (fun a1 => ?_)
 ·
  have bk := a1
  try simp only [BS] at bk
  refine wR 1 [(1, .o (iI iv.i.n)), (5, .o (iI iv.i.n))] 114 121 [4] [(4, (.bool ((decide ((0 : Int) ≤ iv.i.n)) && (decide (iv.i.n < 8)))))] (vA (ql 2 4 (HS.hc z (i := 2) rfl) rfl rfl) (vA (fun (A : (decide ((0 : Int) ≤ iv.i.n)) = true) => (ql 2 4 (HS.hc z (i := 2) rfl) rfl rfl)) trivial)) rfl fun _ => ak ⟨.inr rfl, _, rfl, ((decide ((0 : Int) ≤ iv.i.n)) && (decide (iv.i.n < 8))), _, (fT (E) U), (HS.forget z), rfl, (by rw [hgood] <;> (first | exact (dh hal hgood.2 (by omega) (by omega) (by omega) (by omega)).symm | (unfold gy; (repeat' split) <;> first | omega | rfl | (rw [a0p] <;> simp))))⟩
 have bk := a1
 try simp only [BS] at bk
 refine wT 1 [] 122 123 [] [(122, (.bool (iv.i.op == 34)))] rfl fun _ => am 1 0 (v := (iv.i.op == 34)) rfl rfl rfl rfl (fun ag => ?_) (fun ag => ?_)
 ·
  have bl := ag
  try simp only [BS] at bl
  refine bn 1 (v := (iv.i.op == 34)) rfl ag rfl rfl (wR 1 [(1, .o (iI iv.i.n)), (5, .o (iI iv.i.n))] 125 132 [4] [(4, (.bool ((decide ((0 : Int) ≤ iv.i.n)) && (decide (iv.i.n < 4)))))] (vA (ql 2 4 (HS.hc z (i := 2) rfl) rfl rfl) (vA (fun (A : (decide ((0 : Int) ≤ iv.i.n)) = true) => (ql 2 4 (HS.hc z (i := 2) rfl) rfl rfl)) trivial)) rfl fun _ => ak ⟨.inr rfl, _, rfl, ((decide ((0 : Int) ≤ iv.i.n)) && (decide (iv.i.n < 4))), _, (fT (E) U), (HS.forget z), rfl, (by rw [hgood] <;> (first | exact (dh hal hgood.2 (by omega) (by omega) (by omega) (by omega)).symm | (unfold gy; (repeat' split) <;> first | omega | rfl | (rw [a0p] <;> simp))))⟩)
 have bl := ag
 try simp only [BS] at bl
 refine wT 1 [] 122 124 [] [(122, (.bool (iv.i.op == 35)))] rfl fun _ => am 1 1 (v := (iv.i.op == 35)) rfl rfl rfl rfl (fun a2 => ?_) (fun a2 => ?_)
 ·
  have bz := a2
  try simp only [BS] at bz
  refine wR 1 [(1, .o (iI iv.i.n)), (5, .o (iI iv.i.n))] 125 132 [4] [(4, (.bool ((decide ((0 : Int) ≤ iv.i.n)) && (decide (iv.i.n < 4)))))] (vA (ql 2 4 (HS.hc z (i := 2) rfl) rfl rfl) (vA (fun (A : (decide ((0 : Int) ≤ iv.i.n)) = true) => (ql 2 4 (HS.hc z (i := 2) rfl) rfl rfl)) trivial)) rfl fun _ => ak ⟨.inr rfl, _, rfl, ((decide ((0 : Int) ≤ iv.i.n)) && (decide (iv.i.n < 4))), _, (fT (E) U), (HS.forget z), rfl, (by rw [hgood] <;> (first | exact (dh hal hgood.2 (by omega) (by omega) (by omega) (by omega)).symm | (unfold gy; (repeat' split) <;> first | omega | rfl | (rw [a0p] <;> simp))))⟩
 have bz := a2
 try simp only [BS] at bz
 refine wT 1 [] 133 134 [] [(133, (.bool (iv.i.op == 38)))] rfl fun _ => am 1 3 (v := (iv.i.op == 38)) rfl rfl rfl rfl (fun a3 => ?_) (fun a3 => ?_)
 ·
  have b0 := a3
  try simp only [BS] at b0
  refine wR 1 [(1, .o (iI iv.i.n)), (5, .o (iI iv.i.n)), (7, .o (iI c.params))] 135 144 [4] [(4, (.bool ((decide ((0 : Int) ≤ iv.i.n)) && (decide (iv.i.n < c.params)))))] (vA (ql 2 4 (HS.hc z (i := 2) rfl) rfl rfl) (vA (fun (A : (decide ((0 : Int) ≤ iv.i.n)) = true) => (ql 2 4 (HS.hc z (i := 2) rfl) rfl rfl)) (vA (fun (A : (decide ((0 : Int) ≤ iv.i.n)) = true) => (ql 3 0 (HS.hc z (i := 1) rfl) rfl rfl)) trivial))) rfl fun _ => ak ⟨.inr rfl, _, rfl, ((decide ((0 : Int) ≤ iv.i.n)) && (decide (iv.i.n < c.params))), _, (fT (E) U), (HS.forget z), rfl, (by rw [hgood] <;> (first | exact (dh hal hgood.2 (by omega) (by omega) (by omega) (by omega)).symm | (unfold gy; (repeat' split) <;> first | omega | rfl | (rw [a0p] <;> simp))))⟩
 have b0 := a3
 try simp only [BS] at b0
 refine wU 1 [(1, .o (iI iv.i.n))] 145 147 [4] [(4, (.bool (iv.i.n == 0)))] (ql 2 4 (HS.hc z (i := 2) rfl) rfl rfl) rfl fun _ => ak ⟨.inr rfl, _, rfl, (iv.i.n == 0), _, (fT (E) U), (HS.forget z), rfl, (by rw [hgood] <;> (first | exact (dh hal hgood.2 (by omega) (by omega) (by omega) (by omega)).symm | (unfold gy; (repeat' split) <;> first | omega | rfl | (rw [a0p] <;> simp))))⟩
theorem rEnd_c {N : Option Addr} {Y : Nat} (b : BlkT) {E : Option Addr} {J : Nat} (c : VFnT) (hs : HS (.of H []) F H [] R) (ay : SR F (.slice N b.ins.length Y) b.ins) (a0 : in64 b.fin) (a1 : in64 b.reg) (a2 : in64 b.tgt) (a3 : in64 b.els) (a4 : in64 c.params) (a5 : in64 c.regs) (a6 : SR F (.slice E c.blocks.length J) c.blocks) (hT : TB 37 tabC F) : kKt ex 98 [(.agg ⟨[(.slice N b.ins.length Y), (iI b.fin), (iI b.reg), (iI b.tgt), (iI b.els)]⟩), (.agg ⟨[(iI c.params), (iI c.regs), (.slice E c.blocks.length J)]⟩)] H fun v H' => ∃ (r : Bool) (F' : Fz), Fz.le F F' ∧ HS (.of H []) F' H' [] R ∧ v = .bool r ∧ r = vendV (c.blocks.length : Int) c.regs b := by
 refine aI Tryd.func98 rfl rfl (ah 1 rfl (aa (aH (bw hs rfl rfl) rfl rfl ?_)))
 rintro _ H2 _ ⟨b1, rfl, (ar : HS _ _ _ [[(b1, .cells [(.slice N b.ins.length Y), (iI b.fin), (iI b.reg), (iI b.tgt), (iI b.els)] none false)]] _), _⟩
 refine aH (bw ar rfl rfl) rfl rfl ?_
 rintro _ H4 _ ⟨b3, rfl, (z : HS _ _ _ [_, [(b3, .cells [(iI c.params), (iI c.regs), (.slice E c.blocks.length J)] none false)]] _), _⟩
 refine wa (.bool false) rfl rfl rfl (ae 2 rfl (wU 2 [(1, .o (.slice E c.blocks.length J))] 9 11 [5] [(5, (iI (c.blocks.length : Int)))] (ql 22 2 (HS.hc z (i := 1) rfl) rfl rfl) rfl fun _ => wRD 3 [(1, .o (iI b.tgt)), (5, .o (iI b.tgt)), (10, .o (iI b.els)), (14, .o (iI b.els)), (19, .o (iI b.reg)), (23, .o (iI b.reg)), (25, .o (iI c.regs))] 12 39 [6, 7, 8] [(6, (.bool ((decide ((0 : Int) ≤ b.tgt)) && (decide (b.tgt < (c.blocks.length : Int)))))), (7, (.bool ((decide ((0 : Int) ≤ b.els)) && (decide (b.els < (c.blocks.length : Int)))))), (8, (.bool ((decide ((0 : Int) ≤ b.reg)) && (decide (b.reg < c.regs)))))] (vA (ql 3 3 (hc0 (HS.hc z (i := 0) rfl)) rfl rfl) (vA (fun (A : (decide ((0 : Int) ≤ b.tgt)) = true) => (ql 3 3 (hc0 (HS.hc z (i := 0) rfl)) rfl rfl)) (vA (ql 3 4 (hc0 (HS.hc z (i := 0) rfl)) rfl rfl) (vA (fun (A : (decide ((0 : Int) ≤ b.els)) = true) => (ql 3 4 (hc0 (HS.hc z (i := 0) rfl)) rfl rfl)) (vA (ql 3 2 (hc0 (HS.hc z (i := 0) rfl)) rfl rfl) (vA (fun (A : (decide ((0 : Int) ≤ b.reg)) = true) => (ql 3 2 (hc0 (HS.hc z (i := 0) rfl)) rfl rfl)) (vA (fun (A : (decide ((0 : Int) ≤ b.reg)) = true) => (ql 3 1 (hc0 (HS.hc z (i := 1) rfl)) rfl rfl)) trivial))))))) rfl rfl fun _ => wU 3 [(1, .o (iI b.fin))] 40 41 [] [(41, (iI b.fin))] (ql 3 1 (HS.hc z (i := 0) rfl) rfl rfl) rfl fun _ => wT 1 [] 42 43 [] [(42, (.bool (b.fin == 1)))] rfl fun _ => am 1 1 (v := (b.fin == 1)) rfl rfl rfl rfl (fun al => ?_) (fun al => ?_)))
 ·
  have c9 := al
  try simp only [BS] at c9
  refine wR 1 [(3, .o (iI b.els)), (8, .o (iI b.reg))] 44 54 [4] [(4, (.bool ((((decide ((0 : Int) ≤ b.tgt)) && (decide (b.tgt < (c.blocks.length : Int)))) && (b.els == 0)) && (b.reg == 0))))] (vA (fun (A : ((decide ((0 : Int) ≤ b.tgt)) && (decide (b.tgt < (c.blocks.length : Int)))) = true) => (ql 3 4 (HS.hc z (i := 0) rfl) rfl rfl)) (vA (fun (A : (((decide ((0 : Int) ≤ b.tgt)) && (decide (b.tgt < (c.blocks.length : Int)))) && (b.els == 0)) = true) => (ql 3 2 (HS.hc z (i := 0) rfl) rfl rfl)) trivial)) rfl fun _ => ak ⟨.inr rfl, _, rfl, ((((decide ((0 : Int) ≤ b.tgt)) && (decide (b.tgt < (c.blocks.length : Int)))) && (b.els == 0)) && (b.reg == 0)), _, fR, (HS.forget z), rfl, (by refine a0p.2 (Iff.trans ?_ bL.symm); first | omega | (simp [aV] <;> omega))⟩
 have c9 := al
 try simp only [BS] at c9
 refine wT 1 [] 55 56 [] [(55, (.bool (b.fin == 2)))] rfl fun _ => am 1 1 (v := (b.fin == 2)) rfl rfl rfl rfl (fun T => ?_) (fun T => ?_)
 ·
  have Z := T
  try simp only [BS] at Z
  refine wT 1 [] 57 63 [4] [(4, (.bool ((((decide ((0 : Int) ≤ b.tgt)) && (decide (b.tgt < (c.blocks.length : Int)))) && ((decide ((0 : Int) ≤ b.els)) && (decide (b.els < (c.blocks.length : Int))))) && ((decide ((0 : Int) ≤ b.reg)) && (decide (b.reg < c.regs))))))] rfl fun _ => ak ⟨.inr rfl, _, rfl, ((((decide ((0 : Int) ≤ b.tgt)) && (decide (b.tgt < (c.blocks.length : Int)))) && ((decide ((0 : Int) ≤ b.els)) && (decide (b.els < (c.blocks.length : Int))))) && ((decide ((0 : Int) ≤ b.reg)) && (decide (b.reg < c.regs)))), _, fR, (HS.forget z), rfl, (by refine a0p.2 (Iff.trans ?_ bL.symm); first | omega | (simp [aV] <;> omega))⟩
 have Z := T
 try simp only [BS] at Z
 refine wT 1 [] 64 65 [] [(64, (.bool (b.fin == 3)))] rfl fun _ => am 1 1 (v := (b.fin == 3)) rfl rfl rfl rfl (fun U => ?_) (fun U => ?_)
 ·
  have ad := U
  try simp only [BS] at ad
  refine wR 1 [(3, .o (iI b.tgt)), (8, .o (iI b.els))] 66 76 [4] [(4, (.bool ((((decide ((0 : Int) ≤ b.reg)) && (decide (b.reg < c.regs))) && (b.tgt == 0)) && (b.els == 0))))] (vA (fun (A : ((decide ((0 : Int) ≤ b.reg)) && (decide (b.reg < c.regs))) = true) => (ql 3 3 (HS.hc z (i := 0) rfl) rfl rfl)) (vA (fun (A : (((decide ((0 : Int) ≤ b.reg)) && (decide (b.reg < c.regs))) && (b.tgt == 0)) = true) => (ql 3 4 (HS.hc z (i := 0) rfl) rfl rfl)) trivial)) rfl fun _ => ak ⟨.inr rfl, _, rfl, ((((decide ((0 : Int) ≤ b.reg)) && (decide (b.reg < c.regs))) && (b.tgt == 0)) && (b.els == 0)), _, fR, (HS.forget z), rfl, (by refine a0p.2 (Iff.trans ?_ bL.symm); first | omega | (simp [aV] <;> omega))⟩
 have ad := U
 try simp only [BS] at ad
 refine wT 1 [] 77 78 [] [(77, (.bool (b.fin == 4)))] rfl fun _ => am 1 3 (v := (b.fin == 4)) rfl rfl rfl rfl (fun V => ?_) (fun V => ?_)
 ·
  have ag := V
  try simp only [BS] at ag
  refine wR 1 [(1, .o (iI b.tgt)), (5, .o (iI b.tgt)), (10, .o (iI b.els)), (15, .o (iI b.reg))] 79 96 [4] [(4, (.bool ((((decide ((1 : Int) ≤ b.tgt)) && (decide (b.tgt < 33554432))) && (b.els == 0)) && (b.reg == 0))))] (vA (ql 3 3 (HS.hc z (i := 0) rfl) rfl rfl) (vA (fun (A : (decide ((1 : Int) ≤ b.tgt)) = true) => (ql 3 3 (HS.hc z (i := 0) rfl) rfl rfl)) (vA (fun (A : ((decide ((1 : Int) ≤ b.tgt)) && (decide (b.tgt < 33554432))) = true) => (ql 3 4 (HS.hc z (i := 0) rfl) rfl rfl)) (vA (fun (A : (((decide ((1 : Int) ≤ b.tgt)) && (decide (b.tgt < 33554432))) && (b.els == 0)) = true) => (ql 3 2 (HS.hc z (i := 0) rfl) rfl rfl)) trivial)))) rfl fun _ => ak ⟨.inr rfl, _, rfl, ((((decide ((1 : Int) ≤ b.tgt)) && (decide (b.tgt < 33554432))) && (b.els == 0)) && (b.reg == 0)), _, fR, (HS.forget z), rfl, (by refine a0p.2 (Iff.trans ?_ bL.symm); first | omega | (simp [aV] <;> omega))⟩
 have ag := V
 try simp only [BS] at ag
 refine wT 1 [] 4 4 [] [(4, (.bool false))] rfl fun _ => ak ⟨.inr rfl, _, rfl, false, _, fR, (HS.forget z), rfl, (by refine a0p.2 (Iff.trans ?_ bL.symm); first | omega | (simp [aV] <;> omega))⟩
set_option maxHeartbeats 1000000 in
theorem valid_c {J : Option Addr} {N : Nat} (c : VFnT) (hs : HS (.of H []) F H [] R) (e2 : in64 c.params) (e3 : in64 c.regs) (Y : SR F (.slice J c.blocks.length N) c.blocks) (hT : TB 37 tabC F) (hv : ∀ j, (c.blocks.getD j default).ins.length ≤ 9223372036854775807) : kKt ex 49 [(.agg ⟨[(iI c.params), (iI c.regs), (.slice J c.blocks.length N)]⟩)] H fun v H' => ∃ (r : Bool) (F' : Fz), Fz.le F F' ∧ HS (.of H []) F' H' [] R ∧ v = .bool r ∧ r = cx c := by
 refine aI Tryd.func49 rfl rfl (ah 1 rfl (aa (aH (bw hs rfl rfl) rfl rfl ?_)))
 rintro _ H2 _ ⟨b1, rfl, (Z : HS _ _ _ [[(b1, .cells [(iI c.params), (iI c.regs), (.slice J c.blocks.length N)] none false)]] _), _⟩
 refine wa (.bool false) rfl rfl rfl (ae 3 rfl (wR 1 [(1, .o (iI c.params)), (5, .o (iI c.params)), (10, .o (iI c.regs)), (15, .o (iI c.regs)), (20, .o (.slice J c.blocks.length N)), (26, .o (.slice J c.blocks.length N))] 10 39 [] [(39, (.bool ((((((decide (c.params < 0)) || (decide ((6 : Int) < c.params))) || (decide (c.regs < 0))) || (decide ((3000 : Int) < c.regs))) || (decide ((c.blocks.length : Int) < 1))) || (decide ((1000 : Int) < (c.blocks.length : Int))))))] (vA (ql 3 0 (HS.hc Z (i := 0) rfl) rfl rfl) (vA (fun (T : (decide (c.params < 0)) = false) => (ql 3 0 (HS.hc Z (i := 0) rfl) rfl rfl)) (vA (fun (T : ((decide (c.params < 0)) || (decide ((6 : Int) < c.params))) = false) => (ql 3 1 (HS.hc Z (i := 0) rfl) rfl rfl)) (vA (fun (T : (((decide (c.params < 0)) || (decide ((6 : Int) < c.params))) || (decide (c.regs < 0))) = false) => (ql 3 1 (HS.hc Z (i := 0) rfl) rfl rfl)) (vA (fun (T : ((((decide (c.params < 0)) || (decide ((6 : Int) < c.params))) || (decide (c.regs < 0))) || (decide ((3000 : Int) < c.regs))) = false) => (ql 22 2 (HS.hc Z (i := 0) rfl) rfl rfl)) (vA (fun (T : (((((decide (c.params < 0)) || (decide ((6 : Int) < c.params))) || (decide (c.regs < 0))) || (decide ((3000 : Int) < c.regs))) || (decide ((c.blocks.length : Int) < 1))) = false) => (ql 22 2 (HS.hc Z (i := 0) rfl) rfl rfl)) trivial)))))) rfl fun _ => am 1 2 (v := ((((((decide (c.params < 0)) || (decide ((6 : Int) < c.params))) || (decide (c.regs < 0))) || (decide ((3000 : Int) < c.regs))) || (decide ((c.blocks.length : Int) < 1))) || (decide ((1000 : Int) < (c.blocks.length : Int))))) rfl rfl rfl rfl (fun ch => ?_) (fun ch => ?_)))
 ·
  have c4 := ch
  try simp only [BS] at c4
  refine wT 1 [] 2 2 [] [(2, (.bool false))] rfl fun _ => ak ⟨.inr rfl, _, rfl, false, _, fR, (HS.forget Z), rfl, (val_lim (by omega))⟩
 have c4 := ch
 try simp only [BS] at c4
 have hlim : 0 ≤ c.params ∧ c.params ≤ 6 ∧ 0 ≤ c.regs ∧ c.regs ≤ 3000 ∧ 1 ≤ c.blocks.length ∧ c.blocks.length ≤ 1000 := by omega
 let dd : Fp := [(b1, .cells [(iI c.params), (iI c.regs), (.slice J c.blocks.length N)] none false)]
 refine wT 2 [] 40 40 [3] [(3, (.func (.func 90) #[] #[(.pointer (some ⟨b1, 0, none⟩))]))] rfl fun _ => wT 3 [] 41 41 [4] [(4, (.func (.func 91) #[] #[(.pointer (some ⟨b1, 0, none⟩))]))] rfl fun _ => wU 2 [(1, .o (.slice J c.blocks.length N))] 42 45 [] [(43, (.slice J c.blocks.length N)), (44, (iI (c.blocks.length : Int))), (45, (iI 0))] (ql 22 2 (HS.hc Z (i := 0) rfl) rfl rfl) rfl fun _ => aj (fun (mm : Nat) f H' => ∃ (k : Nat) (F' : Fz), Fz.le F F' ∧ HS (Base.of H []) F' H' [dd] R ∧ aD f [(1, (.pointer (some ⟨b1, 0, none⟩))), (3, (.func (.func 90) #[] #[(.pointer (some ⟨b1, 0, none⟩))])), (4, (.func (.func 91) #[] #[(.pointer (some ⟨b1, 0, none⟩))])), (43, (.slice J c.blocks.length N)), (44, (iI (c.blocks.length : Int))), (45, (iI (k : Int)))] ∧ mm = c.blocks.length - k ∧ (k ≤ c.blocks.length) ∧ (∀ j, j < k → kD c.params c.regs (c.blocks.length : Int) (c.blocks.getD j default) = true)) _ ⟨0, _, fR, Z, ⟨rfl, rfl, rfl, rfl, rfl, rfl, trivial⟩, rfl, (by omega), (eh)⟩ ?_
 rintro f4 f9 H9 ⟨k, F9, U, b2, c9, rfl, hk, ha⟩ b3
 refine au _ c9 (fun _ => ?_)
 clear c9
 replace hT := hT.mono U
 replace Y := Y.mono U
 have hvk := hv k
 refine ah 1 rfl (wT 2 [] 46 46 [] [(46, (.bool (decide ((k : Int) < (c.blocks.length : Int)))))] rfl fun _ => am 4 5 (v := (decide ((k : Int) < (c.blocks.length : Int)))) rfl rfl rfl rfl (fun a2 => ?_) (fun a2 => ?_))
 ·
  have b6 := a2
  try simp only [BS] at b6
  refine aa ?_
  obtain ⟨E, c5⟩ := Sv.view (SR.sv Y b2)
  obtain ⟨d1, d2, d3, d4, ad⟩ := BlkT.fx (c5 k)
  let dk : Value := (.agg ⟨[(.slice (cA (E k) 0) (c.blocks.getD k default).ins.length (cK (E k) 0)), (iI (c.blocks.getD k default).fin), (iI (c.blocks.getD k default).reg), (iI (c.blocks.getD k default).tgt), (iI (c.blocks.getD k default).els)]⟩)
  refine wRo 2 0 [(1, .o dk)] 47 48 [] [(48, dk)] (vA (Sv.ix (j := (k : Int)) (SR.sv Y b2) (by omega) (by omega)) (vA (qn 48 0 5 (BlkT.vw (c5 k) (by omega)) rfl rfl rfl rfl) trivial)) rfl fun _ => aH (bp b2 rfl) rfl rfl ?_
  rintro _ fd _ ⟨bz, rfl, (ds : HS _ _ _ [_, [(bz, .cells [(.slice none 0 0), (iI 0), (iI 0), (iI 0), (iI 0)] none false)]] _), _⟩
  refine aL (aE (q := 1) ds rfl rfl rfl rfl rfl rfl rfl rfl rfl) rfl ?_
  rintro _ fi _ ⟨(c3 : HS _ _ _ [_, [(bz, .cells [(.slice (cA (E k) 0) (c.blocks.getD k default).ins.length (cK (E k) 0)), (iI (c.blocks.getD k default).fin), (iI (c.blocks.getD k default).reg), (iI (c.blocks.getD k default).tgt), (iI (c.blocks.getD k default).els)] none false)]] _), _⟩
  refine ae 3 rfl (wU 2 [(1, .o (.slice (cA (E k) 0) (c.blocks.getD k default).ins.length (cK (E k) 0)))] 49 52 [] [(50, (.slice (cA (E k) 0) (c.blocks.getD k default).ins.length (cK (E k) 0))), (51, (iI ((c.blocks.getD k default).ins.length : Int))), (52, (iI 0))] (ql 46 0 (HS.hc c3 (i := 1) rfl) rfl rfl) rfl fun _ => aj (fun (mm : Nat) f H' => ∃ (i : Nat) (F' : Fz), Fz.le F9 F' ∧ HS (Base.of H []) F' H' [dd, [(bz, .cells [(.slice (cA (E k) 0) (c.blocks.getD k default).ins.length (cK (E k) 0)), (iI (c.blocks.getD k default).fin), (iI (c.blocks.getD k default).reg), (iI (c.blocks.getD k default).tgt), (iI (c.blocks.getD k default).els)] none false)]] R ∧ aD f [(1, (.pointer (some ⟨b1, 0, none⟩))), (3, (.func (.func 90) #[] #[(.pointer (some ⟨b1, 0, none⟩))])), (4, (.func (.func 91) #[] #[(.pointer (some ⟨b1, 0, none⟩))])), (6, (.pointer (some ⟨bz, 0, none⟩))), (43, (.slice J c.blocks.length N)), (44, (iI (c.blocks.length : Int))), (45, (iI (k : Int))), (50, (.slice (cA (E k) 0) (c.blocks.getD k default).ins.length (cK (E k) 0))), (51, (iI ((c.blocks.getD k default).ins.length : Int))), (52, (iI (i : Int)))] ∧ mm = (c.blocks.getD k default).ins.length - i ∧ (i ≤ (c.blocks.getD k default).ins.length) ∧ (∀ j, j < i → eI c.params c.regs ((c.blocks.getD k default).ins.getD j default) = true)) _ ⟨0, _, fR, c3, ⟨rfl, rfl, rfl, rfl, rfl, rfl, rfl, rfl, rfl, rfl, trivial⟩, rfl, (by omega), (eh)⟩ ?_)
  rintro e4 f3 av ⟨i, e5, A, z, c0, rfl, hi, hb⟩ dv
  refine au _ c0 (fun _ => ?_)
  clear c0
  replace hT := hT.mono A
  replace Y := Y.mono A
  replace ad := ad.mono A
  refine ah 1 rfl (wT 2 [] 53 53 [] [(53, (.bool (decide ((i : Int) < ((c.blocks.getD k default).ins.length : Int)))))] rfl fun _ => am 4 5 (v := (decide ((i : Int) < ((c.blocks.getD k default).ins.length : Int)))) rfl rfl rfl rfl (fun a3 => ?_) (fun a3 => ?_))
  ·
   have b7 := a3
   try simp only [BS] at b7
   refine aa ?_
   obtain ⟨al, c6⟩ := Sv.view (SR.sv ad z)
   obtain ⟨ea, em, es, et, ez, c7⟩ := VInT.fx (c6 i)
   let b4 : Value := (.agg ⟨[(iI ((c.blocks.getD k default).ins.getD i default).i.op), (iI ((c.blocks.getD k default).ins.getD i default).i.a), (iI ((c.blocks.getD k default).ins.getD i default).i.b), (iI ((c.blocks.getD k default).ins.getD i default).i.c), (iI ((c.blocks.getD k default).ins.getD i default).i.n), (.slice (cA (al i) 5) ((c.blocks.getD k default).ins.getD i default).args.length (cK (al i) 5))]⟩)
   refine wRo 2 0 [(1, .o b4)] 54 55 [] [(55, b4)] (vA (Sv.ix (j := (i : Int)) (SR.sv ad z) (by omega) (by omega)) (vA (qn 52 0 6 (VInT.vw (c6 i) (by omega)) rfl rfl rfl rfl) trivial)) rfl fun _ => aH (bp z rfl) rfl rfl ?_
   rintro _ f0 _ ⟨c8, rfl, (dt : HS _ _ _ [_, _, [(c8, .cells [(iI 0), (iI 0), (iI 0), (iI 0), (iI 0), (.slice none 0 0)] none false)]] _), _⟩
   refine aL (aE (q := 2) dt rfl rfl rfl rfl rfl rfl rfl rfl rfl) rfl ?_
   rintro _ f1 _ ⟨(an : HS _ _ _ [_, _, [(c8, .cells [(iI ((c.blocks.getD k default).ins.getD i default).i.op), (iI ((c.blocks.getD k default).ins.getD i default).i.a), (iI ((c.blocks.getD k default).ins.getD i default).i.b), (iI ((c.blocks.getD k default).ins.getD i default).i.c), (iI ((c.blocks.getD k default).ins.getD i default).i.n), (.slice (cA (al i) 5) ((c.blocks.getD k default).ins.getD i default).args.length (cK (al i) 5))] none false)]] _), _⟩
   let dl : Value := (.agg ⟨[(iI c.params), (iI c.regs), (.slice J c.blocks.length N)]⟩)
   refine ae 2 rfl (aa (wRo 2 0 [(0, .o dl), (1, .o b4)] 56 57 [] [(56, dl), (57, b4)] (vA (qn 24 0 3 (HS.hc an (i := 0) rfl) rfl rfl rfl rfl) (vA (qn 52 0 6 (HS.hc an (i := 2) rfl) rfl rfl rfl rfl) trivial)) rfl fun _ => az (ap rfl rfl rfl) rfl rfl (vinstr_c ex (⟨c.params, c.regs, c.blocks⟩ : VFnT) (⟨(⟨((c.blocks.getD k default).ins.getD i default).i.op, ((c.blocks.getD k default).ins.getD i default).i.a, ((c.blocks.getD k default).ins.getD i default).i.b, ((c.blocks.getD k default).ins.getD i default).i.c, ((c.blocks.getD k default).ins.getD i default).i.n⟩ : InsT), ((c.blocks.getD k default).ins.getD i default).args⟩ : VInT) (HS.call an) (by omega) (by omega) Y (by omega) (by omega) (by omega) (by omega) (by omega) c7 hT) ?_))
   rintro _ f2 ⟨f5, e6, co, ar, rfl, rfl⟩
   replace ar : HS _ _ _ [_, _, _] _ := HS.back an rfl ar
   refine wTo 1 3 [] 59 59 [] [(59, (.bool (!(eI (⟨c.params, c.regs, c.blocks⟩ : VFnT).params (⟨c.params, c.regs, c.blocks⟩ : VFnT).regs (⟨(⟨((c.blocks.getD k default).ins.getD i default).i.op, ((c.blocks.getD k default).ins.getD i default).i.a, ((c.blocks.getD k default).ins.getD i default).i.b, ((c.blocks.getD k default).ins.getD i default).i.c, ((c.blocks.getD k default).ins.getD i default).i.n⟩ : InsT), ((c.blocks.getD k default).ins.getD i default).args⟩ : VInT)))))] rfl fun _ => ae 1 rfl (am 1 2 (v := (!(eI (⟨c.params, c.regs, c.blocks⟩ : VFnT).params (⟨c.params, c.regs, c.blocks⟩ : VFnT).regs (⟨(⟨((c.blocks.getD k default).ins.getD i default).i.op, ((c.blocks.getD k default).ins.getD i default).i.a, ((c.blocks.getD k default).ins.getD i default).i.b, ((c.blocks.getD k default).ins.getD i default).i.c, ((c.blocks.getD k default).ins.getD i default).i.n⟩ : InsT), ((c.blocks.getD k default).ins.getD i default).args⟩ : VInT)))) rfl rfl rfl rfl (fun a4 => ?_) (fun a4 => ?_))
   ·
    have b0 := a4
    try simp only [BS] at b0
    have h3 := b0
    refine wT 1 [] 2 2 [] [(2, (.bool false))] rfl fun _ => ak ⟨.inr rfl, _, rfl, false, _, (fT (fT (U) A) co), (HS.forget ar), rfl, (gH (dH (by omega) (blk_no (dH (by omega) h3))))⟩
   have b0 := a4
   try simp only [BS] at b0
   refine wU 1 [] 52 52 [60] [(52, (iI ((i : Int) + 1)))] (vi (n := (i : Int) + 1) (by omega)) rfl fun _ => dv _ _ _ ?_ ⟨i + 1, _, (fT (A) co), (HS.sub ar (a05 _ _)), ⟨rfl, rfl, rfl, rfl, rfl, rfl, rfl, rfl, rfl, rfl, trivial⟩, rfl, (by omega), (cQ hb (by assumption))⟩
   omega
  have b7 := a3
  try simp only [BS] at b7
  have hal := eY hb (by omega)
  refine wT 3 [] 1 0 [9] [(9, (.bool false))] rfl fun _ => wU 3 [(1, .o (iI (c.blocks.getD k default).fin))] 61 62 [] [(62, (iI (c.blocks.getD k default).fin))] (ql 3 1 (HS.hc z (i := 1) rfl) rfl rfl) rfl fun _ => wT 1 [] 63 64 [] [(63, (.bool ((c.blocks.getD k default).fin == 1)))] rfl fun _ => am 0 1 (v := ((c.blocks.getD k default).fin == 1)) rfl rfl rfl rfl (fun a5 => ?_) (fun a5 => ?_)
  ·
   have b9 := a5
   try simp only [BS] at b9
   refine wR 3 [(2, .o (iI (c.blocks.getD k default).tgt)), (3, .o (.bool (aN ((⟨c.params, c.regs, c.blocks⟩ : VFnT).blocks.length : Int) (c.blocks.getD k default).tgt))), (6, .o (iI (c.blocks.getD k default).reg)), (11, .o (iI (c.blocks.getD k default).els))] 65 78 [9] [(9, (.bool ((aN ((⟨c.params, c.regs, c.blocks⟩ : VFnT).blocks.length : Int) (c.blocks.getD k default).tgt && ((c.blocks.getD k default).reg == 0)) && ((c.blocks.getD k default).els == 0))))] (vA (ql 3 3 (HS.hc z (i := 1) rfl) rfl rfl) (vA (kB ex (c.blocks.getD k default).tgt (⟨c.params, c.regs, c.blocks⟩ : VFnT) av (by omega) (HS.hc z (i := 0) rfl) (by omega) (by omega)) (vA (fun (T : (aN ((⟨c.params, c.regs, c.blocks⟩ : VFnT).blocks.length : Int) (c.blocks.getD k default).tgt) = true) => (ql 3 2 (HS.hc z (i := 1) rfl) rfl rfl)) (vA (fun (T : (aN ((⟨c.params, c.regs, c.blocks⟩ : VFnT).blocks.length : Int) (c.blocks.getD k default).tgt && ((c.blocks.getD k default).reg == 0)) = true) => (ql 3 4 (HS.hc z (i := 1) rfl) rfl rfl)) trivial)))) rfl fun _ => wT 1 [] 133 134 [] [(134, (.bool (!((aN ((⟨c.params, c.regs, c.blocks⟩ : VFnT).blocks.length : Int) (c.blocks.getD k default).tgt && ((c.blocks.getD k default).reg == 0)) && ((c.blocks.getD k default).els == 0)))))] rfl fun _ => am 1 2 (v := (!((aN ((⟨c.params, c.regs, c.blocks⟩ : VFnT).blocks.length : Int) (c.blocks.getD k default).tgt && ((c.blocks.getD k default).reg == 0)) && ((c.blocks.getD k default).els == 0)))) rfl rfl rfl rfl (fun a6 => ?_) (fun a6 => ?_)
   ·
    have ax := a6
    try simp only [BS] at ax
    have V := ax
    try simp only [cU, aV] at V
    refine wT 1 [] 2 2 [] [(2, (.bool false))] rfl fun _ => ak ⟨.inr rfl, _, rfl, false, _, (fT (U) A), (HS.forget z), rfl, (gH (dH (k := k) (by omega) (gG (a1k.2 fun hv => by rw [bL] at hv; omega))))⟩
   have ax := a6
   try simp only [BS] at ax
   have V := ax
   try simp only [cU, aV] at V
   refine wU 1 [] 45 45 [135] [(45, (iI ((k : Int) + 1)))] (vi (n := (k : Int) + 1) (by omega)) rfl fun _ => b3 _ _ _ ?_ ⟨k + 1, _, (fT (U) A), (HS.sub z (a05 _ _)), ⟨rfl, rfl, rfl, rfl, rfl, rfl, trivial⟩, rfl, (by omega), (cQ ha (gF hal (by (rw [bL]; omega))))⟩
   omega
  have b9 := a5
  try simp only [BS] at b9
  refine wT 1 [] 79 80 [] [(79, (.bool ((c.blocks.getD k default).fin == 2)))] rfl fun _ => am 0 1 (v := ((c.blocks.getD k default).fin == 2)) rfl rfl rfl rfl (fun a7 => ?_) (fun a7 => ?_)
  ·
   have cc := a7
   try simp only [BS] at cc
   refine wR 3 [(2, .o (iI (c.blocks.getD k default).tgt)), (3, .o (.bool (aN ((⟨c.params, c.regs, c.blocks⟩ : VFnT).blocks.length : Int) (c.blocks.getD k default).tgt))), (7, .o (iI (c.blocks.getD k default).els)), (8, .o (.bool (aN ((⟨c.params, c.regs, c.blocks⟩ : VFnT).blocks.length : Int) (c.blocks.getD k default).els))), (13, .o (iI (c.blocks.getD k default).reg)), (14, .o (.bool (aN (⟨c.params, c.regs, c.blocks⟩ : VFnT).regs (c.blocks.getD k default).reg)))] 81 96 [9] [(9, (.bool ((aN ((⟨c.params, c.regs, c.blocks⟩ : VFnT).blocks.length : Int) (c.blocks.getD k default).tgt && aN ((⟨c.params, c.regs, c.blocks⟩ : VFnT).blocks.length : Int) (c.blocks.getD k default).els) && aN (⟨c.params, c.regs, c.blocks⟩ : VFnT).regs (c.blocks.getD k default).reg)))] (vA (ql 3 3 (HS.hc z (i := 1) rfl) rfl rfl) (vA (kB ex (c.blocks.getD k default).tgt (⟨c.params, c.regs, c.blocks⟩ : VFnT) av (by omega) (HS.hc z (i := 0) rfl) (by omega) (by omega)) (vA (fun (T : (aN ((⟨c.params, c.regs, c.blocks⟩ : VFnT).blocks.length : Int) (c.blocks.getD k default).tgt) = true) => (ql 3 4 (HS.hc z (i := 1) rfl) rfl rfl)) (vA (fun (T : (aN ((⟨c.params, c.regs, c.blocks⟩ : VFnT).blocks.length : Int) (c.blocks.getD k default).tgt) = true) => (kB ex (c.blocks.getD k default).els (⟨c.params, c.regs, c.blocks⟩ : VFnT) av (by (try simp only [BS] at T); omega) (HS.hc z (i := 0) rfl) (by (try simp only [BS] at T); omega) (by (try simp only [BS] at T); omega))) (vA (fun (T : (aN ((⟨c.params, c.regs, c.blocks⟩ : VFnT).blocks.length : Int) (c.blocks.getD k default).tgt && aN ((⟨c.params, c.regs, c.blocks⟩ : VFnT).blocks.length : Int) (c.blocks.getD k default).els) = true) => (ql 3 2 (HS.hc z (i := 1) rfl) rfl rfl)) (vA (fun (T : (aN ((⟨c.params, c.regs, c.blocks⟩ : VFnT).blocks.length : Int) (c.blocks.getD k default).tgt && aN ((⟨c.params, c.regs, c.blocks⟩ : VFnT).blocks.length : Int) (c.blocks.getD k default).els) = true) => (cReg_c_q ex (c.blocks.getD k default).reg (⟨c.params, c.regs, c.blocks⟩ : VFnT) av (by (try simp only [BS] at T); omega) (HS.hc z (i := 0) rfl) (by (try simp only [BS] at T); omega) (by (try simp only [BS] at T); omega))) trivial)))))) rfl fun _ => wT 1 [] 133 134 [] [(134, (.bool (!((aN ((⟨c.params, c.regs, c.blocks⟩ : VFnT).blocks.length : Int) (c.blocks.getD k default).tgt && aN ((⟨c.params, c.regs, c.blocks⟩ : VFnT).blocks.length : Int) (c.blocks.getD k default).els) && aN (⟨c.params, c.regs, c.blocks⟩ : VFnT).regs (c.blocks.getD k default).reg))))] rfl fun _ => am 1 2 (v := (!((aN ((⟨c.params, c.regs, c.blocks⟩ : VFnT).blocks.length : Int) (c.blocks.getD k default).tgt && aN ((⟨c.params, c.regs, c.blocks⟩ : VFnT).blocks.length : Int) (c.blocks.getD k default).els) && aN (⟨c.params, c.regs, c.blocks⟩ : VFnT).regs (c.blocks.getD k default).reg))) rfl rfl rfl rfl (fun a8 => ?_) (fun a8 => ?_)
   ·
    have ay := a8
    try simp only [BS] at ay
    have V := ay
    try simp only [cU, aV] at V
    refine wT 1 [] 2 2 [] [(2, (.bool false))] rfl fun _ => ak ⟨.inr rfl, _, rfl, false, _, (fT (U) A), (HS.forget z), rfl, (gH (dH (k := k) (by omega) (gG (a1k.2 fun hv => by rw [bL] at hv; omega))))⟩
   have ay := a8
   try simp only [BS] at ay
   have V := ay
   try simp only [cU, aV] at V
   refine wU 1 [] 45 45 [135] [(45, (iI ((k : Int) + 1)))] (vi (n := (k : Int) + 1) (by omega)) rfl fun _ => b3 _ _ _ ?_ ⟨k + 1, _, (fT (U) A), (HS.sub z (a05 _ _)), ⟨rfl, rfl, rfl, rfl, rfl, rfl, trivial⟩, rfl, (by omega), (cQ ha (gF hal (by (rw [bL]; omega))))⟩
   omega
  have cc := a7
  try simp only [BS] at cc
  refine wT 1 [] 97 98 [] [(97, (.bool ((c.blocks.getD k default).fin == 3)))] rfl fun _ => am 0 1 (v := ((c.blocks.getD k default).fin == 3)) rfl rfl rfl rfl (fun a9 => ?_) (fun a9 => ?_)
  ·
   have ci := a9
   try simp only [BS] at ci
   refine wR 3 [(2, .o (iI (c.blocks.getD k default).reg)), (3, .o (.bool (aN (⟨c.params, c.regs, c.blocks⟩ : VFnT).regs (c.blocks.getD k default).reg))), (6, .o (iI (c.blocks.getD k default).tgt)), (11, .o (iI (c.blocks.getD k default).els))] 99 112 [9] [(9, (.bool ((aN (⟨c.params, c.regs, c.blocks⟩ : VFnT).regs (c.blocks.getD k default).reg && ((c.blocks.getD k default).tgt == 0)) && ((c.blocks.getD k default).els == 0))))] (vA (ql 3 2 (HS.hc z (i := 1) rfl) rfl rfl) (vA (cReg_c_q ex (c.blocks.getD k default).reg (⟨c.params, c.regs, c.blocks⟩ : VFnT) av (by omega) (HS.hc z (i := 0) rfl) (by omega) (by omega)) (vA (fun (T : (aN (⟨c.params, c.regs, c.blocks⟩ : VFnT).regs (c.blocks.getD k default).reg) = true) => (ql 3 3 (HS.hc z (i := 1) rfl) rfl rfl)) (vA (fun (T : (aN (⟨c.params, c.regs, c.blocks⟩ : VFnT).regs (c.blocks.getD k default).reg && ((c.blocks.getD k default).tgt == 0)) = true) => (ql 3 4 (HS.hc z (i := 1) rfl) rfl rfl)) trivial)))) rfl fun _ => wT 1 [] 133 134 [] [(134, (.bool (!((aN (⟨c.params, c.regs, c.blocks⟩ : VFnT).regs (c.blocks.getD k default).reg && ((c.blocks.getD k default).tgt == 0)) && ((c.blocks.getD k default).els == 0)))))] rfl fun _ => am 1 2 (v := (!((aN (⟨c.params, c.regs, c.blocks⟩ : VFnT).regs (c.blocks.getD k default).reg && ((c.blocks.getD k default).tgt == 0)) && ((c.blocks.getD k default).els == 0)))) rfl rfl rfl rfl (fun bb => ?_) (fun bb => ?_)
   ·
    have a0 := bb
    try simp only [BS] at a0
    have V := a0
    try simp only [cU, aV] at V
    refine wT 1 [] 2 2 [] [(2, (.bool false))] rfl fun _ => ak ⟨.inr rfl, _, rfl, false, _, (fT (U) A), (HS.forget z), rfl, (gH (dH (k := k) (by omega) (gG (a1k.2 fun hv => by rw [bL] at hv; omega))))⟩
   have a0 := bb
   try simp only [BS] at a0
   have V := a0
   try simp only [cU, aV] at V
   refine wU 1 [] 45 45 [135] [(45, (iI ((k : Int) + 1)))] (vi (n := (k : Int) + 1) (by omega)) rfl fun _ => b3 _ _ _ ?_ ⟨k + 1, _, (fT (U) A), (HS.sub z (a05 _ _)), ⟨rfl, rfl, rfl, rfl, rfl, rfl, trivial⟩, rfl, (by omega), (cQ ha (gF hal (by (rw [bL]; omega))))⟩
   omega
  have ci := a9
  try simp only [BS] at ci
  refine wT 1 [] 113 114 [] [(113, (.bool ((c.blocks.getD k default).fin == 4)))] rfl fun _ => am 0 3 (v := ((c.blocks.getD k default).fin == 4)) rfl rfl rfl rfl (fun bk => ?_) (fun bk => ?_)
  ·
   have cl := bk
   try simp only [BS] at cl
   refine wR 3 [(1, .o (iI (c.blocks.getD k default).tgt)), (5, .o (iI (c.blocks.getD k default).tgt)), (10, .o (iI (c.blocks.getD k default).reg)), (15, .o (iI (c.blocks.getD k default).els))] 115 132 [9] [(9, (.bool ((((decide ((1 : Int) ≤ (c.blocks.getD k default).tgt)) && (decide ((c.blocks.getD k default).tgt < 33554432))) && ((c.blocks.getD k default).reg == 0)) && ((c.blocks.getD k default).els == 0))))] (vA (ql 3 3 (HS.hc z (i := 1) rfl) rfl rfl) (vA (fun (T : (decide ((1 : Int) ≤ (c.blocks.getD k default).tgt)) = true) => (ql 3 3 (HS.hc z (i := 1) rfl) rfl rfl)) (vA (fun (T : ((decide ((1 : Int) ≤ (c.blocks.getD k default).tgt)) && (decide ((c.blocks.getD k default).tgt < 33554432))) = true) => (ql 3 2 (HS.hc z (i := 1) rfl) rfl rfl)) (vA (fun (T : (((decide ((1 : Int) ≤ (c.blocks.getD k default).tgt)) && (decide ((c.blocks.getD k default).tgt < 33554432))) && ((c.blocks.getD k default).reg == 0)) = true) => (ql 3 4 (HS.hc z (i := 1) rfl) rfl rfl)) trivial)))) rfl fun _ => wT 1 [] 133 134 [] [(134, (.bool (!((((decide ((1 : Int) ≤ (c.blocks.getD k default).tgt)) && (decide ((c.blocks.getD k default).tgt < 33554432))) && ((c.blocks.getD k default).reg == 0)) && ((c.blocks.getD k default).els == 0)))))] rfl fun _ => am 1 2 (v := (!((((decide ((1 : Int) ≤ (c.blocks.getD k default).tgt)) && (decide ((c.blocks.getD k default).tgt < 33554432))) && ((c.blocks.getD k default).reg == 0)) && ((c.blocks.getD k default).els == 0)))) rfl rfl rfl rfl (fun bl => ?_) (fun bl => ?_)
   ·
    have a1 := bl
    try simp only [BS] at a1
    have V := a1
    try simp only [cU, aV] at V
    refine wT 1 [] 2 2 [] [(2, (.bool false))] rfl fun _ => ak ⟨.inr rfl, _, rfl, false, _, (fT (U) A), (HS.forget z), rfl, (gH (dH (k := k) (by omega) (gG (a1k.2 fun hv => by rw [bL] at hv; omega))))⟩
   have a1 := bl
   try simp only [BS] at a1
   have V := a1
   try simp only [cU, aV] at V
   refine wU 1 [] 45 45 [135] [(45, (iI ((k : Int) + 1)))] (vi (n := (k : Int) + 1) (by omega)) rfl fun _ => b3 _ _ _ ?_ ⟨k + 1, _, (fT (U) A), (HS.sub z (a05 _ _)), ⟨rfl, rfl, rfl, rfl, rfl, rfl, trivial⟩, rfl, (by omega), (cQ ha (gF hal (by (rw [bL]; omega))))⟩
   omega
  have cl := bk
  try simp only [BS] at cl
  refine wT 1 [] 133 134 [] [(134, (.bool true))] rfl fun _ => bn 1 (v := true) rfl rfl rfl rfl (wT 1 [] 2 2 [] [(2, (.bool false))] rfl fun _ => ak ⟨.inr rfl, _, rfl, false, _, (fT (U) A), (HS.forget z), rfl, (gH (dH (k := k) (by omega) (gG (a1k.2 fun hv => by rw [bL] at hv; omega))))⟩)
 have b6 := a2
 try simp only [BS] at b6
 refine wT 1 [] 2 2 [] [(2, (.bool true))] rfl fun _ => ak ⟨.inr rfl, _, rfl, true, _, (U), (HS.forget b2), rfl, (val_yes hlim (eY ha (by omega)))⟩
set_option maxHeartbeats 1000000 in
theorem hU {J : Option Addr} {T : Nat} (c : VFnT) (hs : HS (.of H []) F H [] R) (d3 : in64 c.params) (d4 : in64 c.regs) (A : SR F (.slice J c.blocks.length T) c.blocks) (hT : TB 37 tabC F) (hv : ∀ j, (c.blocks.getD j default).ins.length ≤ 9223372036854775807) : kKt ex 53 [(.agg ⟨[(iI c.params), (iI c.regs), (.slice J c.blocks.length T)]⟩)] H fun v H' => ∃ (r : Bool) (F' : Fz), Fz.le F F' ∧ HS (.of H []) F' H' [] R ∧ v = .bool r ∧ r = cx c := by
 refine aI Tryd.func53 rfl rfl (ah 1 rfl (aa (aH (bw hs rfl rfl) rfl rfl ?_)))
 rintro _ H2 _ ⟨b1, rfl, (Z : HS _ _ _ [[(b1, .cells [(iI c.params), (iI c.regs), (.slice J c.blocks.length T)] none false)]] _), _⟩
 refine wa (.bool false) rfl rfl rfl (ae 3 rfl (wR 1 [(1, .o (iI c.params)), (5, .o (iI c.params)), (10, .o (iI c.regs)), (15, .o (iI c.regs)), (20, .o (.slice J c.blocks.length T)), (26, .o (.slice J c.blocks.length T))] 6 35 [] [(35, (.bool ((((((decide (c.params < 0)) || (decide ((6 : Int) < c.params))) || (decide (c.regs < 0))) || (decide ((3000 : Int) < c.regs))) || (decide ((c.blocks.length : Int) < 1))) || (decide ((1000 : Int) < (c.blocks.length : Int))))))] (vA (ql 3 0 (HS.hc Z (i := 0) rfl) rfl rfl) (vA (fun (g1 : (decide (c.params < 0)) = false) => (ql 3 0 (HS.hc Z (i := 0) rfl) rfl rfl)) (vA (fun (g1 : ((decide (c.params < 0)) || (decide ((6 : Int) < c.params))) = false) => (ql 3 1 (HS.hc Z (i := 0) rfl) rfl rfl)) (vA (fun (g1 : (((decide (c.params < 0)) || (decide ((6 : Int) < c.params))) || (decide (c.regs < 0))) = false) => (ql 3 1 (HS.hc Z (i := 0) rfl) rfl rfl)) (vA (fun (g1 : ((((decide (c.params < 0)) || (decide ((6 : Int) < c.params))) || (decide (c.regs < 0))) || (decide ((3000 : Int) < c.regs))) = false) => (ql 22 2 (HS.hc Z (i := 0) rfl) rfl rfl)) (vA (fun (g1 : (((((decide (c.params < 0)) || (decide ((6 : Int) < c.params))) || (decide (c.regs < 0))) || (decide ((3000 : Int) < c.regs))) || (decide ((c.blocks.length : Int) < 1))) = false) => (ql 22 2 (HS.hc Z (i := 0) rfl) rfl rfl)) trivial)))))) rfl fun _ => am 1 3 (v := ((((((decide (c.params < 0)) || (decide ((6 : Int) < c.params))) || (decide (c.regs < 0))) || (decide ((3000 : Int) < c.regs))) || (decide ((c.blocks.length : Int) < 1))) || (decide ((1000 : Int) < (c.blocks.length : Int))))) rfl rfl rfl rfl (fun a5 => ?_) (fun a5 => ?_)))
 ·
  have c4 := a5
  try simp only [BS] at c4
  refine wT 1 [] 2 2 [] [(2, (.bool false))] rfl fun _ => ak ⟨.inr rfl, _, rfl, false, _, fR, (HS.forget Z), rfl, (val_lim (by omega))⟩
 have c4 := a5
 try simp only [BS] at c4
 have hlim : 0 ≤ c.params ∧ c.params ≤ 6 ∧ 0 ≤ c.regs ∧ c.regs ≤ 3000 ∧ 1 ≤ c.blocks.length ∧ c.blocks.length ≤ 1000 := by omega
 let b4 : Fp := [(b1, .cells [(iI c.params), (iI c.regs), (.slice J c.blocks.length T)] none false)]
 refine wT 2 [] 1 0 [3] [(3, (iI 0))] rfl fun _ => aj (fun (mm : Nat) f H' => ∃ (k : Nat) (F' : Fz), Fz.le F F' ∧ HS (Base.of H []) F' H' [b4] R ∧ aD f [(1, (.pointer (some ⟨b1, 0, none⟩))), (3, (iI (k : Int)))] ∧ mm = c.blocks.length - k ∧ (k ≤ c.blocks.length) ∧ (∀ j, j < k → kD c.params c.regs (c.blocks.length : Int) (c.blocks.getD j default) = true)) _ ⟨0, _, fR, Z, ⟨rfl, rfl, trivial⟩, rfl, (by omega), (eh)⟩ ?_
 rintro e3 f7 H7 ⟨k, F7, ag, al, b3, rfl, hk, ha⟩ c3
 refine au _ b3 (fun _ => ?_)
 clear b3
 replace hT := hT.mono ag
 replace A := A.mono ag
 have hvk := hv k
 refine ah 2 rfl (wU 1 [(2, .o (.slice J c.blocks.length T))] 36 40 [] [(40, (.bool (decide ((k : Int) < (c.blocks.length : Int)))))] (ql 22 2 (HS.hc al (i := 0) rfl) rfl rfl) rfl fun _ => am 4 5 (v := (decide ((k : Int) < (c.blocks.length : Int)))) rfl rfl rfl rfl (fun a6 => ?_) (fun a6 => ?_))
 ·
  have c9 := a6
  try simp only [BS] at c9
  refine aa ?_
  obtain ⟨z, a9⟩ := Sv.view (SR.sv A al)
  obtain ⟨c5, c6, c7, c8, U⟩ := BlkT.fx (a9 k)
  let a2 : Value := (.agg ⟨[(.slice (cA (z k) 0) (c.blocks.getD k default).ins.length (cK (z k) 0)), (iI (c.blocks.getD k default).fin), (iI (c.blocks.getD k default).reg), (iI (c.blocks.getD k default).tgt), (iI (c.blocks.getD k default).els)]⟩)
  refine wRo 5 0 [(1, .o (.slice J c.blocks.length T)), (4, .o a2)] 43 47 [] [(47, a2)] (vA (ql 22 2 (HS.hc al (i := 0) rfl) rfl rfl) (vA (Sv.ix (j := (k : Int)) (SR.sv A al) (by omega) (by omega)) (vA (qn 48 0 5 (BlkT.vw (a9 k) (by omega)) rfl rfl rfl rfl) trivial))) rfl fun _ => aH (bp al rfl) rfl rfl ?_
  rintro _ et _ ⟨ad, rfl, (ch : HS _ _ _ [_, [(ad, .cells [(.slice none 0 0), (iI 0), (iI 0), (iI 0), (iI 0)] none false)]] _), _⟩
  refine aL (aE (q := 1) ch rfl rfl rfl rfl rfl rfl rfl rfl rfl) rfl ?_
  rintro _ ez _ ⟨(an : HS _ _ _ [_, [(ad, .cells [(.slice (cA (z k) 0) (c.blocks.getD k default).ins.length (cK (z k) 0)), (iI (c.blocks.getD k default).fin), (iI (c.blocks.getD k default).reg), (iI (c.blocks.getD k default).tgt), (iI (c.blocks.getD k default).els)] none false)]] _), _⟩
  let bb : Value := (.agg ⟨[(iI c.params), (iI c.regs), (.slice J c.blocks.length T)]⟩)
  refine ae 3 rfl (aa (wRo 2 0 [(0, .o a2), (1, .o bb)] 48 49 [] [(48, a2), (49, bb)] (vA (qn 48 0 5 (HS.hc an (i := 1) rfl) rfl rfl rfl rfl) (vA (qn 24 0 3 (HS.hc an (i := 0) rfl) rfl rfl rfl rfl) trivial)) rfl fun _ => az (ap rfl rfl rfl) rfl rfl (rEnd_c ex (⟨(c.blocks.getD k default).ins, (c.blocks.getD k default).fin, (c.blocks.getD k default).reg, (c.blocks.getD k default).tgt, (c.blocks.getD k default).els⟩ : BlkT) (⟨c.params, c.regs, c.blocks⟩ : VFnT) (HS.call an) U (by omega) (by omega) (by omega) (by omega) (by omega) (by omega) A hT) ?_))
  rintro _ e0 ⟨e4, co, V, ar, rfl, rfl⟩
  replace ar : HS _ _ _ [_, _] _ := HS.back an rfl ar
  replace hT := hT.mono V
  replace A := A.mono V
  replace U := U.mono V
  refine wTo 1 3 [] 51 51 [] [(51, (.bool (!(vendV ((⟨c.params, c.regs, c.blocks⟩ : VFnT).blocks.length : Int) (⟨c.params, c.regs, c.blocks⟩ : VFnT).regs (⟨(c.blocks.getD k default).ins, (c.blocks.getD k default).fin, (c.blocks.getD k default).reg, (c.blocks.getD k default).tgt, (c.blocks.getD k default).els⟩ : BlkT)))))] rfl fun _ => ae 1 rfl (am 1 2 (v := (!(vendV ((⟨c.params, c.regs, c.blocks⟩ : VFnT).blocks.length : Int) (⟨c.params, c.regs, c.blocks⟩ : VFnT).regs (⟨(c.blocks.getD k default).ins, (c.blocks.getD k default).fin, (c.blocks.getD k default).reg, (c.blocks.getD k default).tgt, (c.blocks.getD k default).els⟩ : BlkT)))) rfl rfl rfl rfl (fun ax => ?_) (fun ax => ?_))
  ·
   have av := ax
   try simp only [BS] at av
   have h2 := av
   refine wT 1 [] 2 2 [] [(2, (.bool false))] rfl fun _ => ak ⟨.inr rfl, _, rfl, false, _, (fT (ag) V), (HS.forget ar), rfl, (gH (dH (by omega) (gG h2)))⟩
  have av := ax
  try simp only [BS] at av
  have hend := av
  refine wT 2 [] 1 0 [5] [(5, (iI 0))] rfl fun _ => aj (fun (mm : Nat) f H' => ∃ (i : Nat) (F' : Fz), Fz.le co F' ∧ HS (Base.of H []) F' H' [b4, [(ad, .cells [(.slice (cA (z k) 0) (c.blocks.getD k default).ins.length (cK (z k) 0)), (iI (c.blocks.getD k default).fin), (iI (c.blocks.getD k default).reg), (iI (c.blocks.getD k default).tgt), (iI (c.blocks.getD k default).els)] none false)]] R ∧ aD f [(1, (.pointer (some ⟨b1, 0, none⟩))), (3, (iI (k : Int))), (4, (.pointer (some ⟨ad, 0, none⟩))), (5, (iI (i : Int)))] ∧ mm = (c.blocks.getD k default).ins.length - i ∧ (i ≤ (c.blocks.getD k default).ins.length) ∧ (∀ j, j < i → eI c.params c.regs ((c.blocks.getD k default).ins.getD j default) = true)) _ ⟨0, _, fR, ar, ⟨rfl, rfl, rfl, rfl, trivial⟩, rfl, (by omega), (eh)⟩ ?_
  rintro ea e2 e1 ⟨i, em, Y, N, a8, rfl, hi, hb⟩ ci
  refine au _ a8 (fun _ => ?_)
  clear a8
  replace hT := hT.mono Y
  replace A := A.mono Y
  replace U := U.mono Y
  refine ah 2 rfl (wU 1 [(2, .o (.slice (cA (z k) 0) (c.blocks.getD k default).ins.length (cK (z k) 0)))] 52 56 [] [(56, (.bool (decide ((i : Int) < ((c.blocks.getD k default).ins.length : Int)))))] (ql 46 0 (HS.hc N (i := 1) rfl) rfl rfl) rfl fun _ => am 4 5 (v := (decide ((i : Int) < ((c.blocks.getD k default).ins.length : Int)))) rfl rfl rfl rfl (fun ay => ?_) (fun ay => ?_))
  ·
   have a4 := ay
   try simp only [BS] at a4
   refine aY rfl (wfv (v := (.pointer (some ⟨ad, 0, none⟩))) (dG rfl rfl) (aB (v := (.slice (cA (z k) 0) (c.blocks.getD k default).ins.length (cK (z k) 0))) (id := .l ad) (bt (i := 0) rfl rfl (HS.hc N.log0 (i := 1) rfl) rfl rfl) rfl rfl (bG rfl) (kb rfl) (fm (iI (i : Int)) rfl rfl rfl (wfv (v := (.pointer (some ⟨sB (.slice (cA (z k) 0) (c.blocks.getD k default).ins.length (cK (z k) 0)), sO (.slice (cA (z k) 0) (c.blocks.getD k default).ins.length (cK (z k) 0)) + i * Rp.sz VInT, none⟩))) (bd (α := VInT) (j := (i : Int)) rfl rfl rfl rfl (SR.sv U N.log0) (by omega) (by omega)) ?_))))
   obtain ⟨dv, cc, b9⟩ := Sv.at (SR.sv U N.log0) (aK (x := default) (show i < (c.blocks.getD k default).ins.length from by omega))
   obtain ⟨bk, b0, rfl, dd, dk, dl, dn, ds, b2⟩ := cc
   refine aB (v := (.agg ⟨[(iI ((c.blocks.getD k default).ins.getD i default).i.op), (iI ((c.blocks.getD k default).ins.getD i default).i.a), (iI ((c.blocks.getD k default).ins.getD i default).i.b), (iI ((c.blocks.getD k default).ins.getD i default).i.c), (iI ((c.blocks.getD k default).ins.getD i default).i.n), (.slice bk ((c.blocks.getD k default).ins.getD i default).args.length b0)]⟩)) (id := .l (sB (.slice (cA (z k) 0) (c.blocks.getD k default).ins.length (cK (z k) 0)))) (dL (i := 0) rfl rfl rfl b9 rfl rfl rfl) rfl rfl (bG rfl) (kb rfl) (aB (v := bb) (id := .l b1) (dL (i := 0) rfl rfl rfl (HS.hc N.log0 (i := 0) rfl) rfl rfl rfl) rfl rfl (bG rfl) (kb rfl) (bj (W := []) (ap rfl rfl rfl) rfl rfl rfl (rinstr_c ex ((c.blocks.getD k default).ins.getD i default) (⟨c.params, c.regs, c.blocks⟩ : VFnT) (HS.call N.log0) (by omega) (by omega) (by omega) (by omega) (by omega) b2 (by omega) (by omega) A hT) (kb rfl) ?_))
   rintro _ c0 ⟨e5, es, a7, E, rfl, rfl⟩
   refine ⟨Wr.did E.log, fun cl bz => ?_⟩
   replace E := HS.back N.log0 rfl E
   replace E := HS.lg E N bz
   generalize ({ c0 with log := cl } : Heap) = dt at E ⊢
   have E : HS _ _ _ [_, _] _ := E
   refine wfv (v := (.bool (!(eI (⟨c.params, c.regs, c.blocks⟩ : VFnT).params (⟨c.params, c.regs, c.blocks⟩ : VFnT).regs ((c.blocks.getD k default).ins.getD i default))))) (ap_not rfl) (cu (ah 1 rfl (am 1 2 (v := (!(eI (⟨c.params, c.regs, c.blocks⟩ : VFnT).params (⟨c.params, c.regs, c.blocks⟩ : VFnT).regs ((c.blocks.getD k default).ins.getD i default)))) rfl rfl rfl rfl (fun a0 => ?_) (fun a0 => ?_))))
   ·
    have a1 := a0
    try simp only [BS] at a1
    have h4 := a1
    refine wT 1 [] 2 2 [] [(2, (.bool false))] rfl fun _ => ak ⟨.inr rfl, _, rfl, false, _, (fT (fT (fT (ag) V) Y) a7), (HS.forget E), rfl, (gH (dH (by omega) (blk_no (dH (by omega) h4))))⟩
   have a1 := a0
   try simp only [BS] at a1
   refine wU 1 [] 57 58 [5] [(5, (iI ((i : Int) + 1)))] (vi (n := (i : Int) + 1) (by omega)) rfl fun _ => ci _ _ _ ?_ ⟨i + 1, _, (fT (Y) a7), E, ⟨rfl, rfl, rfl, rfl, trivial⟩, rfl, (by omega), (cQ hb (by assumption))⟩
   omega
  have a4 := ay
  try simp only [BS] at a4
  have hal := eY hb (by omega)
  refine wU 1 [] 41 42 [3] [(3, (iI ((k : Int) + 1)))] (vi (n := (k : Int) + 1) (by omega)) rfl fun _ => c3 _ _ _ ?_ ⟨k + 1, _, (fT (fT (ag) V) Y), (HS.sub N (a05 _ _)), ⟨rfl, rfl, trivial⟩, rfl, (by omega), (cQ ha (gF hal hend))⟩
  omega
 have c9 := a6
 try simp only [BS] at c9
 refine wT 1 [] 2 2 [] [(2, (.bool true))] rfl fun _ => ak ⟨.inr rfl, _, rfl, true, _, (ag), (HS.forget al), rfl, (val_yes hlim (eY ha (by omega)))⟩
end Go.Proofs.YtknafdcgpaejlaaDoor.m3
