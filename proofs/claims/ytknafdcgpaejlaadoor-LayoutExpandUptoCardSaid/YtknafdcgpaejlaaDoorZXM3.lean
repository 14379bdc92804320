/-
 Which virtual code is valid: the program and the reference, each by a symbolic run. No condition but that the table lies as laid.
-/
import Derived.Test.YtknafdcgpaejlaaDoorZXM2
noncomputable section
namespace Go.Proofs.YtknafdcgpaejlaaDoor.m3
open Go.R
set_option maxRecDepth 10000
set_option linter.unusedVariables false
set_option linter.unusedSimpArgs false
open m1 m2
theorem jH (ex : FuncId) (op : Int) {F : Fz} {H : Heap} {R : List Fp} (hs : HS (.of H []) F H [] R) (hop : in64 op) (hT : TB 37 tabC F) : C Tryd.prog 1 (KT 60 ex 37 tabC) 100 [(iI op)] H fun v H' => ∃ (x : InfT) (F' : Fz), Fz.le F F' ∧ HS (.of H []) F' H' [] R ∧ v = .agg ⟨[.string ⟨⟨x.name.b⟩⟩, .int .i64 x.form, .bool x.ra, .bool x.wa, .bool x.rb, .bool x.mt, .int .i64 x.words]⟩ ∧ in64 x.form ∧ in64 x.words ∧ x = aj op := by
 refine aJ Tryd.func100 rfl rfl ?_
 refine aq 1 rfl ?_
 refine aa ?_
 refine aC (aR hs rfl) rfl rfl ?_
 rintro _ H2 _ ⟨V, rfl, (J : HS _ _ _ [[(V, .cells [(.string ⟨⟨[]⟩⟩), (iI 0), (.bool false), (.bool false), (.bool false), (.bool false), (iI 0)] none false)]] _), _⟩
 refine ab 3 rfl ?_
 refine wR 1 [] 5 6 [] [(6, (.bool (op == 38)))] trivial rfl fun _ => ?_
 refine ap 1 2 (v := (op == 38)) rfl rfl rfl rfl (fun z => ?_) (fun z => ?_)
 ·
  have Z := z
  try simp only [BS] at Z
  refine aa ?_
  refine wRo 1 0 [] 7 7 [] [(7, (.agg ⟨[(.string ⟨⟨[]⟩⟩), (iI 5), (.bool false), (.bool true), (.bool false), (.bool false), (iI 0)]⟩))] trivial rfl fun _ => ?_
  refine aF (aw (q := 0) J rfl rfl rfl rfl rfl rfl rfl rfl rfl) rfl ?_
  rintro _ H6 _ ⟨(U : HS _ _ _ [[(V, .cells [(.string ⟨⟨[]⟩⟩), (iI 5), (.bool false), (.bool true), (.bool false), (.bool false), (iI 0)] none false)]] _), _⟩
  refine ab 1 rfl ?_
  refine ah ⟨.inr rfl, _, (rC rfl (ldVN rfl rfl (HS.hc U (i := 0) rfl) rfl) rN), (⟨⟨[]⟩, 5, false, true, false, false, 0⟩ : InfT), _, fR, (HS.forget U), rfl, (by first | omega | (dsimp only; omega)), (by first | omega | (dsimp only; omega)), (by unfold aj; split <;> first | rfl | omega)⟩
 have Z := z
 try simp only [BS] at Z
 refine aa ?_
 refine wm (iI op) rfl rfl rfl ?_
 refine az (am rfl rfl rfl) rfl rfl (m1.rInfo_c ex op (HS.call J) (by first | omega | (dsimp only; omega)) hT) ?_
 rintro _ H7 ⟨x7, o7, F7, al, N, rfl, an, ar, rfl, rfl⟩
 replace N : HS _ _ _ [_] _ := HS.back J rfl N
 let T : Value := (.agg ⟨[(.string ⟨⟨(aD op).name.b⟩⟩), (iI (aD op).form), (.bool (aD op).ra), (.bool (aD op).wa), (.bool (aD op).rb), (.bool (aD op).mt), (iI (aD op).words)]⟩)
 refine wRo 3 2 [] 11 12 [8] [(11, T), (12, (.bool (infO op)))] trivial rfl fun _ => ?_
 refine aC (aR N rfl) rfl rfl ?_
 rintro _ av _ ⟨b9, rfl, (ad : HS _ _ _ [_, [(b9, .cells [(.string ⟨⟨[]⟩⟩), (iI 0), (.bool false), (.bool false), (.bool false), (.bool false), (iI 0)] none false)]] _), _⟩
 refine aF (aw (q := 1) ad rfl rfl rfl rfl rfl rfl rfl rfl rfl) rfl ?_
 rintro _ ax _ ⟨(A : HS _ _ _ [_, [(b9, .cells [(.string ⟨⟨(aD op).name.b⟩⟩), (iI (aD op).form), (.bool (aD op).ra), (.bool (aD op).wa), (.bool (aD op).rb), (.bool (aD op).mt), (iI (aD op).words)] none false)]] _), _⟩
 refine wa (.bool (infO op)) rfl rfl rfl ?_
 refine ab 2 rfl ?_
 refine aa ?_
 refine wRo 1 0 [(0, .o T)] 13 13 [] [(13, T)] (vA (qn 105 0 7 (HS.hc A (i := 1) rfl) rfl rfl rfl rfl) trivial) rfl fun _ => ?_
 refine aF (aw (q := 0) A rfl rfl rfl rfl rfl rfl rfl rfl rfl) rfl ?_
 rintro _ ay _ ⟨(E : HS _ _ _ [[(V, .cells [(.string ⟨⟨(aD op).name.b⟩⟩), (iI (aD op).form), (.bool (aD op).ra), (.bool (aD op).wa), (.bool (aD op).rb), (.bool (aD op).mt), (iI (aD op).words)] none false)], _] _), _⟩
 refine ab 1 rfl ?_
 refine ah ⟨.inr rfl, _, (rC rfl (ldVN rfl rfl (HS.hc E (i := 0) rfl) rfl) rN), (⟨⟨(aD op).name.b⟩, (aD op).form, (aD op).ra, (aD op).wa, (aD op).rb, (aD op).mt, (aD op).words⟩ : InfT), _, (al), (HS.forget E), rfl, (by first | omega | (dsimp only; omega)), (by first | omega | (dsimp only; omega)), (by unfold aj; split <;> first | rfl | omega)⟩
theorem rOperand_c (ex : FuncId) (has : Bool) (n : Int) (regs : Int) (H : Heap) (hn : in64 n) (hregs : in64 regs) : C Tryd.prog 1 (KT 60 ex 37 tabC) 132 [(.bool has), (iI n), (iI regs)] H fun v H' => ∃ (r : Bool), H' = H ∧ v = .bool r ∧ r = di has n regs := by
 refine aJ Tryd.func132 rfl rfl ?_
 refine aq 1 rfl ?_
 refine wR 3 [] 6 6 [] [(6, (.bool false))] trivial rfl fun _ => ?_
 refine wR 1 [] 7 7 [] [(7, (.bool has))] trivial rfl fun _ => ?_
 refine ap 1 2 (v := has) rfl rfl rfl rfl (fun z => ?_) (fun z => ?_)
 ·
  have A := z
  try simp only [BS] at A
  refine wR 1 [] 8 14 [6] [(6, (.bool ((decide ((0 : Int) ≤ n)) && (decide (n < regs)))))] trivial rfl fun _ => ?_
  refine ah ⟨.inr rfl, _, rfl, ((decide ((0 : Int) ≤ n)) && (decide (n < regs))), rfl, rfl, (by rw [Bool.eq_iff_iff]; unfold di; simp [bK, z])⟩
 have A := z
 try simp only [BS] at A
 refine wR 1 [] 15 16 [6] [(6, (.bool (n == 0)))] trivial rfl fun _ => ?_
 refine ah ⟨.inr rfl, _, rfl, (n == 0), rfl, rfl, (by rw [Bool.eq_iff_iff]; unfold di; simp [bK, z])⟩
theorem ev (ex : FuncId) (has : Bool) (n : Int) (regs : Int) (H : Heap) (hn : in64 n) (hregs : in64 regs) : C Tryd.prog 1 (KT 60 ex 37 tabC) 132 [(.bool has), (iI n), (iI regs)] H fun v H' => v = (.bool (di has n regs)) ∧ H' = H :=
 cq (rOperand_c ex has n regs H hn hregs) (by rintro _ _ ⟨_, rfl, rfl, rfl⟩; exact ⟨rfl, rfl⟩)
set_option maxHeartbeats 1000000 in
theorem rinstr_c (ex : FuncId) {N : Option Addr} {T : Nat} (iv : VInT) {ag : Option Addr} {an : Nat} (c : VFnT) {F : Fz} {H : Heap} {R : List Fp} (hs : HS (.of H []) F H [] R) (c8 : in64 iv.i.op) (c9 : in64 iv.i.a) (dd : in64 iv.i.b) (dk : in64 iv.i.c) (dl : in64 iv.i.n) (V : SR F (.slice N iv.args.length T) iv.args) (dt : in64 c.params) (dv : in64 c.regs) (d1 : SR F (.slice ag c.blocks.length an) c.blocks) (hT : TB 37 tabC F) : C Tryd.prog 1 (KT 60 ex 37 tabC) 99 [(.agg ⟨[(iI iv.i.op), (iI iv.i.a), (iI iv.i.b), (iI iv.i.c), (iI iv.i.n), (.slice N iv.args.length T)]⟩), (.agg ⟨[(iI c.params), (iI c.regs), (.slice ag c.blocks.length an)]⟩)] H fun v H' => ∃ (r : Bool) (F' : Fz), Fz.le F F' ∧ HS (.of H []) F' H' [] R ∧ v = .bool r ∧ r = fK c.params c.regs iv := by
 refine aJ Tryd.func99 rfl rfl ?_
 refine aq 1 rfl ?_
 refine aa ?_
 refine aC (be hs rfl rfl) rfl rfl ?_
 rintro _ H2 _ ⟨b1, rfl, (c6 : HS _ _ _ [[(b1, .cells [(iI iv.i.op), (iI iv.i.a), (iI iv.i.b), (iI iv.i.c), (iI iv.i.n), (.slice N iv.args.length T)] none false)]] _), _⟩
 refine aC (be c6 rfl rfl) rfl rfl ?_
 rintro _ H4 _ ⟨b3, rfl, (b9 : HS _ _ _ [_, [(b3, .cells [(iI c.params), (iI c.regs), (.slice ag c.blocks.length an)] none false)]] _), _⟩
 refine wa (.bool false) rfl rfl rfl ?_
 refine ab 2 rfl ?_
 refine aa ?_
 let cc : Value := (.agg ⟨[(iI iv.i.op), (iI iv.i.a), (iI iv.i.b), (iI iv.i.c), (iI iv.i.n)]⟩)
 refine wRo 2 0 [(1, .o cc)] 10 11 [] [(11, cc)] (vA (qn 50 0 5 (HS.hc b9 (i := 0) rfl) rfl rfl rfl rfl) trivial) rfl fun _ => ?_
 refine aC (aR b9 rfl) rfl rfl ?_
 rintro _ H7 _ ⟨b6, rfl, (c7 : HS _ _ _ [_, _, [(b6, .cells [(iI 0), (iI 0), (iI 0), (iI 0), (iI 0)] none false)]] _), _⟩
 refine aF (aw (q := 2) c7 rfl rfl rfl rfl rfl rfl rfl rfl rfl) rfl ?_
 rintro _ H8 _ ⟨(ad : HS _ _ _ [_, _, [(b6, .cells [(iI iv.i.op), (iI iv.i.a), (iI iv.i.b), (iI iv.i.c), (iI iv.i.n)] none false)]] _), _⟩
 refine ab 3 rfl ?_
 refine wR 1 [(1, .o (iI iv.i.op)), (2, .o (.bool (alV iv.i.op))), (6, .o (iI iv.i.op)), (10, .o (.slice N iv.args.length T)), (17, .o (.slice N iv.args.length T))] 12 32 [] [(32, (.bool (((!(alV iv.i.op)) || ((iv.i.op != 6) && (decide ((0 : Int) < (iv.args.length : Int))))) || (decide ((6 : Int) < (iv.args.length : Int))))))] (vA (ql 3 0 (HS.hc ad (i := 2) rfl) rfl rfl) (vA (m1.jJ ex iv.i.op H8) (vA (fun (A : (!(alV iv.i.op)) = false) => (ql 3 0 (HS.hc ad (i := 2) rfl) rfl rfl)) (vA (fun (A : (iv.i.op != 6) = true) (g2 : (!(alV iv.i.op)) = false) => (ql 25 5 (HS.hc ad (i := 0) rfl) rfl rfl)) (vA (fun (A : ((!(alV iv.i.op)) || ((iv.i.op != 6) && (decide ((0 : Int) < (iv.args.length : Int))))) = false) => (ql 25 5 (HS.hc ad (i := 0) rfl) rfl rfl)) trivial))))) rfl fun _ => ?_
 refine ap 1 3 (v := (((!(alV iv.i.op)) || ((iv.i.op != 6) && (decide ((0 : Int) < (iv.args.length : Int))))) || (decide ((6 : Int) < (iv.args.length : Int))))) rfl rfl rfl rfl (fun av => ?_) (fun av => ?_)
 ·
  have ar := av
  try simp only [BS] at ar
  have hbad := ar
  refine wR 1 [] 4 4 [] [(4, (.bool false))] trivial rfl fun _ => ?_
  refine ah ⟨.inr rfl, _, rfl, false, _, fR, (HS.forget ad), rfl, (by exact vin_bad2 hbad)⟩
 have ar := av
 try simp only [BS] at ar
 have hal : alV iv.i.op = true := (ar).1.1
 have h6 : iv.i.op = 6 ∨ iv.args.length = 0 := by omega
 have b8 : iv.args.length ≤ 6 := by omega
 refine wR 2 [] 1 0 [6] [(6, (iI 0))] trivial rfl fun _ => ?_
 refine aE (fun (mm : Nat) f H' => ∃ (k : Nat) (F' : Fz), Fz.le F F' ∧ HS (Base.of H []) F' H' [[(b1, .cells [(iI iv.i.op), (iI iv.i.a), (iI iv.i.b), (iI iv.i.c), (iI iv.i.n), (.slice N iv.args.length T)] none false)], [(b3, .cells [(iI c.params), (iI c.regs), (.slice ag c.blocks.length an)] none false)], [(b6, .cells [(iI iv.i.op), (iI iv.i.a), (iI iv.i.b), (iI iv.i.c), (iI iv.i.n)] none false)]] R ∧ aH f [(2, (.pointer (some ⟨b1, 0, none⟩))), (3, (.pointer (some ⟨b3, 0, none⟩))), (5, (.pointer (some ⟨b6, 0, none⟩))), (6, (iI (k : Int)))] ∧ mm = iv.args.length - k ∧ (k ≤ iv.args.length) ∧ (∀ j, j < k → cb c.regs (iv.args.getD j default) = true)) _ ⟨0, _, fR, ad, (agC rfl (agC rfl (agC rfl (agC rfl agN)))), rfl, (by first | assumption | omega | (simp at *; omega)), (by exact gW)⟩ ?_
 rintro d2 es em ⟨k, d3, E, J, b4, rfl, hk, ha⟩ co
 refine au _ b4 (fun _ => ?_)
 clear b4
 replace hT := hT.mono E
 replace V := V.mono E
 refine aq 2 rfl ?_
 refine wR 1 [(2, .o (.slice N iv.args.length T))] 33 37 [] [(37, (.bool (decide ((k : Int) < (iv.args.length : Int)))))] (vA (ql 25 5 (HS.hc J (i := 0) rfl) rfl rfl) trivial) rfl fun _ => ?_
 refine ap 4 5 (v := (decide ((k : Int) < (iv.args.length : Int)))) rfl rfl rfl rfl (fun ax => ?_) (fun ax => ?_)
 ·
  have a7 := ax
  try simp only [BS] at a7
  obtain ⟨ds, a5⟩ := Sv.view (SR.sv V J)
  have et := fI (a5 k)
  refine wRD 1 [(1, .o (.slice N iv.args.length T)), (4, .o (iI (iv.args.getD k 0))), (8, .o (.slice N iv.args.length T)), (11, .o (iI (iv.args.getD k 0))), (13, .o (iI c.regs))] 40 55 [] [(55, (.bool ((decide ((iv.args.getD k 0) < 0)) || (decide (c.regs ≤ (iv.args.getD k 0))))))] (vA (ql 25 5 (hc0 (HS.hc J (i := 0) rfl)) rfl rfl) (vA (Sv.ix (j := (k : Int)) (SR.sv V J) (by omega) (by omega)) (vA (ql 3 0 (hc0 (vI (a5 k) (by omega))) rfl rfl) (vA (fun (A : (decide ((iv.args.getD k 0) < 0)) = false) => (ql 25 5 (hc0 (HS.hc J (i := 0) rfl)) rfl rfl)) (vA (fun (A : (decide ((iv.args.getD k 0) < 0)) = false) => (Sv.ix (j := (k : Int)) (SR.sv V J) (by (try simp only [BS] at A); omega) (by (try simp only [BS] at A); omega))) (vA (fun (A : (decide ((iv.args.getD k 0) < 0)) = false) => (ql 3 0 (hc0 (vI (a5 k) (by (try simp only [BS] at A); omega))) rfl rfl)) (vA (fun (A : (decide ((iv.args.getD k 0) < 0)) = false) => (ql 3 1 (hc0 (HS.hc J (i := 1) rfl)) rfl rfl)) trivial))))))) rfl rfl fun _ => ?_
  refine ap 1 2 (v := ((decide ((iv.args.getD k 0) < 0)) || (decide (c.regs ≤ (iv.args.getD k 0))))) rfl rfl rfl rfl (fun ay => ?_) (fun ay => ?_)
  ·
   have a8 := ay
   try simp only [BS] at a8
   refine wR 1 [] 4 4 [] [(4, (.bool false))] trivial rfl fun _ => ?_
   refine ah ⟨.inr rfl, _, rfl, false, _, (E), (HS.forget J), rfl, (by exact vin_no (j7 (k := k) (by omega) (regOK_not.2 (show ¬ (0 ≤ iv.args.getD k 0 ∧ iv.args.getD k 0 < c.regs) by omega))))⟩
  have a8 := ay
  try simp only [BS] at a8
  refine wR 1 [] 38 39 [6] [(6, (iI ((k : Int) + 1)))] (vA (vi (n := (k : Int) + 1) (by omega)) trivial) rfl fun _ => ?_
  refine co _ _ _ ?_ ⟨k + 1, _, (E), J, (agC rfl (agC rfl (agC rfl (agC rfl agN)))), rfl, (by first | assumption | omega | (simp at *; omega)), (by exact gX ha (bK.2 (show 0 ≤ iv.args.getD k 0 ∧ iv.args.getD k 0 < c.regs by omega)))⟩
  omega
 have a7 := ax
 try simp only [BS] at a7
 have hall := jA ha (by omega)
 refine aa ?_
 refine wRo 2 0 [(1, .o (iI iv.i.op))] 56 57 [] [(57, (iI iv.i.op))] (vA (ql 3 0 (HS.hc J (i := 2) rfl) rfl rfl) trivial) rfl fun _ => ?_
 refine az (am rfl rfl rfl) rfl rfl (jH ex iv.i.op (HS.call J) (by omega) hT) ?_
 rintro _ a6 ⟨ez, d4, U, z, rfl, c0, c3, rfl⟩
 replace z : HS _ _ _ [_, _, _] _ := HS.back J rfl z
 refine wRo 2 3 [] 59 59 [7] [(7, (iI (aj iv.i.op).form))] trivial rfl fun _ => ?_
 refine ab 2 rfl ?_
 refine wR 2 [] 60 61 [8] [(8, (.bool ((aj iv.i.op).form != 1)))] trivial rfl fun _ => ?_
 refine wR 3 [] 62 71 [9] [(9, (.bool ((((aj iv.i.op).form == 3) || ((aj iv.i.op).form == 4)) || ((aj iv.i.op).form == 7))))] trivial rfl fun _ => ?_
 refine wR 1 [(2, .o (iI iv.i.a)), (4, .o (iI c.regs)), (5, .o (.bool (di ((aj iv.i.op).form != 1) iv.i.a c.regs))), (10, .o (iI iv.i.b)), (12, .o (iI c.regs)), (13, .o (.bool (di ((((aj iv.i.op).form == 3) || ((aj iv.i.op).form == 4)) || ((aj iv.i.op).form == 7)) iv.i.b c.regs))), (20, .o (iI iv.i.c)), (22, .o (iI c.regs)), (23, .o (.bool (di ((aj iv.i.op).form == 4) iv.i.c c.regs)))] 72 97 [] [(97, (.bool (((!(di ((aj iv.i.op).form != 1) iv.i.a c.regs)) || (!(di ((((aj iv.i.op).form == 3) || ((aj iv.i.op).form == 4)) || ((aj iv.i.op).form == 7)) iv.i.b c.regs))) || (!(di ((aj iv.i.op).form == 4) iv.i.c c.regs)))))] (vA (ql 3 1 (HS.hc z (i := 2) rfl) rfl rfl) (vA (ql 3 1 (HS.hc z (i := 1) rfl) rfl rfl) (vA (ev ex ((aj iv.i.op).form != 1) iv.i.a c.regs a6 (by omega) (by omega)) (vA (fun (A : (!(di ((aj iv.i.op).form != 1) iv.i.a c.regs)) = false) => (ql 3 2 (HS.hc z (i := 2) rfl) rfl rfl)) (vA (fun (A : (!(di ((aj iv.i.op).form != 1) iv.i.a c.regs)) = false) => (ql 3 1 (HS.hc z (i := 1) rfl) rfl rfl)) (vA (fun (A : (!(di ((aj iv.i.op).form != 1) iv.i.a c.regs)) = false) => (ev ex ((((aj iv.i.op).form == 3) || ((aj iv.i.op).form == 4)) || ((aj iv.i.op).form == 7)) iv.i.b c.regs a6 (by (try simp only [BS] at A); omega) (by (try simp only [BS] at A); omega))) (vA (fun (A : ((!(di ((aj iv.i.op).form != 1) iv.i.a c.regs)) || (!(di ((((aj iv.i.op).form == 3) || ((aj iv.i.op).form == 4)) || ((aj iv.i.op).form == 7)) iv.i.b c.regs))) = false) => (ql 3 3 (HS.hc z (i := 2) rfl) rfl rfl)) (vA (fun (A : ((!(di ((aj iv.i.op).form != 1) iv.i.a c.regs)) || (!(di ((((aj iv.i.op).form == 3) || ((aj iv.i.op).form == 4)) || ((aj iv.i.op).form == 7)) iv.i.b c.regs))) = false) => (ql 3 1 (HS.hc z (i := 1) rfl) rfl rfl)) (vA (fun (A : ((!(di ((aj iv.i.op).form != 1) iv.i.a c.regs)) || (!(di ((((aj iv.i.op).form == 3) || ((aj iv.i.op).form == 4)) || ((aj iv.i.op).form == 7)) iv.i.b c.regs))) = false) => (ev ex ((aj iv.i.op).form == 4) iv.i.c c.regs a6 (by (try simp only [BS] at A); omega) (by (try simp only [BS] at A); omega))) trivial))))))))) rfl fun _ => ?_
 refine ap 1 3 (v := (((!(di ((aj iv.i.op).form != 1) iv.i.a c.regs)) || (!(di ((((aj iv.i.op).form == 3) || ((aj iv.i.op).form == 4)) || ((aj iv.i.op).form == 7)) iv.i.b c.regs))) || (!(di ((aj iv.i.op).form == 4) iv.i.c c.regs)))) rfl rfl rfl rfl (fun Z => ?_) (fun Z => ?_)
 ·
  have a9 := Z
  try simp only [BS] at a9
  have c5 := Z
  refine wR 1 [] 4 4 [] [(4, (.bool false))] trivial rfl fun _ => ?_
  refine ah ⟨.inr rfl, _, rfl, false, _, (fT (E) U), (HS.forget z), rfl, (by exact vin_rbad hal h6 b8 hall c5)⟩
 have a9 := Z
 try simp only [BS] at a9
 have hgood := vin_rgood (params := c.params) hal h6 b8 hall Z
 refine wR 3 [(1, .o (iI iv.i.op))] 98 99 [] [(99, (iI iv.i.op))] (vA (ql 3 0 (HS.hc z (i := 2) rfl) rfl rfl) trivial) rfl fun _ => ?_
 refine wR 1 [] 100 101 [] [(100, (.bool (iv.i.op == 13)))] trivial rfl fun _ => ?_
 refine ap 1 1 (v := (iv.i.op == 13)) rfl rfl rfl rfl (fun a0 => ?_) (fun a0 => ?_)
 ·
  have bb := a0
  try simp only [BS] at bb
  refine wR 1 [] 4 4 [] [(4, (.bool true))] trivial rfl fun _ => ?_
  refine ah ⟨.inr rfl, _, rfl, true, _, (fT (E) U), (HS.forget z), rfl, (by rw [hgood] <;> (first | exact (imm_end hal hgood.2 (by omega) (by omega) (by omega) (by omega)).symm | (unfold immV; (repeat' split) <;> first | omega | rfl | (rw [Bool.eq_iff_iff] <;> simp))))⟩
 have bb := a0
 try simp only [BS] at bb
 refine wR 1 [] 102 103 [] [(102, (.bool (iv.i.op == 33)))] trivial rfl fun _ => ?_
 refine ap 1 1 (v := (iv.i.op == 33)) rfl rfl rfl rfl (fun a1 => ?_) (fun a1 => ?_)
 ·
  have bk := a1
  try simp only [BS] at bk
  refine wR 1 [(1, .o (iI iv.i.n)), (5, .o (iI iv.i.n))] 104 111 [4] [(4, (.bool ((decide ((-4194304 : Int) ≤ iv.i.n)) && (decide (iv.i.n < 4194304)))))] (vA (ql 2 4 (HS.hc z (i := 2) rfl) rfl rfl) (vA (fun (A : (decide ((-4194304 : Int) ≤ iv.i.n)) = true) => (ql 2 4 (HS.hc z (i := 2) rfl) rfl rfl)) trivial)) rfl fun _ => ?_
  refine ah ⟨.inr rfl, _, rfl, ((decide ((-4194304 : Int) ≤ iv.i.n)) && (decide (iv.i.n < 4194304))), _, (fT (E) U), (HS.forget z), rfl, (by rw [hgood] <;> (first | exact (imm_end hal hgood.2 (by omega) (by omega) (by omega) (by omega)).symm | (unfold immV; (repeat' split) <;> first | omega | rfl | (rw [Bool.eq_iff_iff] <;> simp))))⟩
 have bk := a1
 try simp only [BS] at bk
 refine wR 1 [] 112 113 [] [(112, (.bool (iv.i.op == 6)))] trivial rfl fun _ => ?_
 refine ap 1 2 (v := (iv.i.op == 6)) rfl rfl rfl rfl (fun a2 => ?_) (fun a2 => ?_)
 ·
  have bl := a2
  try simp only [BS] at bl
  refine wR 1 [(1, .o (iI iv.i.n)), (5, .o (iI iv.i.n))] 114 121 [4] [(4, (.bool ((decide ((0 : Int) ≤ iv.i.n)) && (decide (iv.i.n < 8)))))] (vA (ql 2 4 (HS.hc z (i := 2) rfl) rfl rfl) (vA (fun (A : (decide ((0 : Int) ≤ iv.i.n)) = true) => (ql 2 4 (HS.hc z (i := 2) rfl) rfl rfl)) trivial)) rfl fun _ => ?_
  refine ah ⟨.inr rfl, _, rfl, ((decide ((0 : Int) ≤ iv.i.n)) && (decide (iv.i.n < 8))), _, (fT (E) U), (HS.forget z), rfl, (by rw [hgood] <;> (first | exact (imm_end hal hgood.2 (by omega) (by omega) (by omega) (by omega)).symm | (unfold immV; (repeat' split) <;> first | omega | rfl | (rw [Bool.eq_iff_iff] <;> simp))))⟩
 have bl := a2
 try simp only [BS] at bl
 refine wR 1 [] 122 123 [] [(122, (.bool (iv.i.op == 34)))] trivial rfl fun _ => ?_
 refine ap 1 0 (v := (iv.i.op == 34)) rfl rfl rfl rfl (fun al => ?_) (fun al => ?_)
 ·
  have bz := al
  try simp only [BS] at bz
  refine aU 1 (v := (iv.i.op == 34)) rfl al rfl rfl ?_
  refine wR 1 [(1, .o (iI iv.i.n)), (5, .o (iI iv.i.n))] 125 132 [4] [(4, (.bool ((decide ((0 : Int) ≤ iv.i.n)) && (decide (iv.i.n < 4)))))] (vA (ql 2 4 (HS.hc z (i := 2) rfl) rfl rfl) (vA (fun (A : (decide ((0 : Int) ≤ iv.i.n)) = true) => (ql 2 4 (HS.hc z (i := 2) rfl) rfl rfl)) trivial)) rfl fun _ => ?_
  refine ah ⟨.inr rfl, _, rfl, ((decide ((0 : Int) ≤ iv.i.n)) && (decide (iv.i.n < 4))), _, (fT (E) U), (HS.forget z), rfl, (by rw [hgood] <;> (first | exact (imm_end hal hgood.2 (by omega) (by omega) (by omega) (by omega)).symm | (unfold immV; (repeat' split) <;> first | omega | rfl | (rw [Bool.eq_iff_iff] <;> simp))))⟩
 have bz := al
 try simp only [BS] at bz
 refine wR 1 [] 122 124 [] [(122, (.bool (iv.i.op == 35)))] trivial rfl fun _ => ?_
 refine ap 1 1 (v := (iv.i.op == 35)) rfl rfl rfl rfl (fun a3 => ?_) (fun a3 => ?_)
 ·
  have b0 := a3
  try simp only [BS] at b0
  refine wR 1 [(1, .o (iI iv.i.n)), (5, .o (iI iv.i.n))] 125 132 [4] [(4, (.bool ((decide ((0 : Int) ≤ iv.i.n)) && (decide (iv.i.n < 4)))))] (vA (ql 2 4 (HS.hc z (i := 2) rfl) rfl rfl) (vA (fun (A : (decide ((0 : Int) ≤ iv.i.n)) = true) => (ql 2 4 (HS.hc z (i := 2) rfl) rfl rfl)) trivial)) rfl fun _ => ?_
  refine ah ⟨.inr rfl, _, rfl, ((decide ((0 : Int) ≤ iv.i.n)) && (decide (iv.i.n < 4))), _, (fT (E) U), (HS.forget z), rfl, (by rw [hgood] <;> (first | exact (imm_end hal hgood.2 (by omega) (by omega) (by omega) (by omega)).symm | (unfold immV; (repeat' split) <;> first | omega | rfl | (rw [Bool.eq_iff_iff] <;> simp))))⟩
 have b0 := a3
 try simp only [BS] at b0
 refine wR 1 [] 133 134 [] [(133, (.bool (iv.i.op == 38)))] trivial rfl fun _ => ?_
 refine ap 1 3 (v := (iv.i.op == 38)) rfl rfl rfl rfl (fun a4 => ?_) (fun a4 => ?_)
 ·
  have b2 := a4
  try simp only [BS] at b2
  refine wR 1 [(1, .o (iI iv.i.n)), (5, .o (iI iv.i.n)), (7, .o (iI c.params))] 135 144 [4] [(4, (.bool ((decide ((0 : Int) ≤ iv.i.n)) && (decide (iv.i.n < c.params)))))] (vA (ql 2 4 (HS.hc z (i := 2) rfl) rfl rfl) (vA (fun (A : (decide ((0 : Int) ≤ iv.i.n)) = true) => (ql 2 4 (HS.hc z (i := 2) rfl) rfl rfl)) (vA (fun (A : (decide ((0 : Int) ≤ iv.i.n)) = true) => (ql 3 0 (HS.hc z (i := 1) rfl) rfl rfl)) trivial))) rfl fun _ => ?_
  refine ah ⟨.inr rfl, _, rfl, ((decide ((0 : Int) ≤ iv.i.n)) && (decide (iv.i.n < c.params))), _, (fT (E) U), (HS.forget z), rfl, (by rw [hgood] <;> (first | exact (imm_end hal hgood.2 (by omega) (by omega) (by omega) (by omega)).symm | (unfold immV; (repeat' split) <;> first | omega | rfl | (rw [Bool.eq_iff_iff] <;> simp))))⟩
 have b2 := a4
 try simp only [BS] at b2
 refine wR 1 [(1, .o (iI iv.i.n))] 145 147 [4] [(4, (.bool (iv.i.n == 0)))] (vA (ql 2 4 (HS.hc z (i := 2) rfl) rfl rfl) trivial) rfl fun _ => ?_
 refine ah ⟨.inr rfl, _, rfl, (iv.i.n == 0), _, (fT (E) U), (HS.forget z), rfl, (by rw [hgood] <;> (first | exact (imm_end hal hgood.2 (by omega) (by omega) (by omega) (by omega)).symm | (unfold immV; (repeat' split) <;> first | omega | rfl | (rw [Bool.eq_iff_iff] <;> simp))))⟩
theorem rEnd_c (ex : FuncId) {N : Option Addr} {Z : Nat} (b : BlkT) {E : Option Addr} {J : Nat} (c : VFnT) {F : Fz} {H : Heap} {R : List Fp} (hs : HS (.of H []) F H [] R) (a0 : SR F (.slice N b.ins.length Z) b.ins) (a1 : in64 b.fin) (a2 : in64 b.reg) (a3 : in64 b.tgt) (a4 : in64 b.els) (a5 : in64 c.params) (a6 : in64 c.regs) (a7 : SR F (.slice E c.blocks.length J) c.blocks) (hT : TB 37 tabC F) : C Tryd.prog 1 (KT 60 ex 37 tabC) 98 [(.agg ⟨[(.slice N b.ins.length Z), (iI b.fin), (iI b.reg), (iI b.tgt), (iI b.els)]⟩), (.agg ⟨[(iI c.params), (iI c.regs), (.slice E c.blocks.length J)]⟩)] H fun v H' => ∃ (r : Bool) (F' : Fz), Fz.le F F' ∧ HS (.of H []) F' H' [] R ∧ v = .bool r ∧ r = iP (c.blocks.length : Int) c.regs b := by
 refine aJ Tryd.func98 rfl rfl ?_
 refine aq 1 rfl ?_
 refine aa ?_
 refine aC (be hs rfl rfl) rfl rfl ?_
 rintro _ H2 _ ⟨b1, rfl, (av : HS _ _ _ [[(b1, .cells [(.slice N b.ins.length Z), (iI b.fin), (iI b.reg), (iI b.tgt), (iI b.els)] none false)]] _), _⟩
 refine aC (be av rfl rfl) rfl rfl ?_
 rintro _ H4 _ ⟨b3, rfl, (z : HS _ _ _ [_, [(b3, .cells [(iI c.params), (iI c.regs), (.slice E c.blocks.length J)] none false)]] _), _⟩
 refine wa (.bool false) rfl rfl rfl ?_
 refine ab 2 rfl ?_
 refine wR 2 [(1, .o (.slice E c.blocks.length J))] 9 11 [5] [(5, (iI (c.blocks.length : Int)))] (vA (ql 22 2 (HS.hc z (i := 1) rfl) rfl rfl) trivial) rfl fun _ => ?_
 refine wRD 3 [(1, .o (iI b.tgt)), (5, .o (iI b.tgt)), (10, .o (iI b.els)), (14, .o (iI b.els)), (19, .o (iI b.reg)), (23, .o (iI b.reg)), (25, .o (iI c.regs))] 12 39 [6, 7, 8] [(6, (.bool ((decide ((0 : Int) ≤ b.tgt)) && (decide (b.tgt < (c.blocks.length : Int)))))), (7, (.bool ((decide ((0 : Int) ≤ b.els)) && (decide (b.els < (c.blocks.length : Int)))))), (8, (.bool ((decide ((0 : Int) ≤ b.reg)) && (decide (b.reg < c.regs)))))] (vA (ql 3 3 (hc0 (HS.hc z (i := 0) rfl)) rfl rfl) (vA (fun (A : (decide ((0 : Int) ≤ b.tgt)) = true) => (ql 3 3 (hc0 (HS.hc z (i := 0) rfl)) rfl rfl)) (vA (ql 3 4 (hc0 (HS.hc z (i := 0) rfl)) rfl rfl) (vA (fun (A : (decide ((0 : Int) ≤ b.els)) = true) => (ql 3 4 (hc0 (HS.hc z (i := 0) rfl)) rfl rfl)) (vA (ql 3 2 (hc0 (HS.hc z (i := 0) rfl)) rfl rfl) (vA (fun (A : (decide ((0 : Int) ≤ b.reg)) = true) => (ql 3 2 (hc0 (HS.hc z (i := 0) rfl)) rfl rfl)) (vA (fun (A : (decide ((0 : Int) ≤ b.reg)) = true) => (ql 3 1 (hc0 (HS.hc z (i := 1) rfl)) rfl rfl)) trivial))))))) rfl rfl fun _ => ?_
 refine wR 3 [(1, .o (iI b.fin))] 40 41 [] [(41, (iI b.fin))] (vA (ql 3 1 (HS.hc z (i := 0) rfl) rfl rfl) trivial) rfl fun _ => ?_
 refine wR 1 [] 42 43 [] [(42, (.bool (b.fin == 1)))] trivial rfl fun _ => ?_
 refine ap 1 1 (v := (b.fin == 1)) rfl rfl rfl rfl (fun an => ?_) (fun an => ?_)
 ·
  have c9 := an
  try simp only [BS] at c9
  refine wR 1 [(3, .o (iI b.els)), (8, .o (iI b.reg))] 44 54 [4] [(4, (.bool ((((decide ((0 : Int) ≤ b.tgt)) && (decide (b.tgt < (c.blocks.length : Int)))) && (b.els == 0)) && (b.reg == 0))))] (vA (fun (A : ((decide ((0 : Int) ≤ b.tgt)) && (decide (b.tgt < (c.blocks.length : Int)))) = true) => (ql 3 4 (HS.hc z (i := 0) rfl) rfl rfl)) (vA (fun (A : (((decide ((0 : Int) ≤ b.tgt)) && (decide (b.tgt < (c.blocks.length : Int)))) && (b.els == 0)) = true) => (ql 3 2 (HS.hc z (i := 0) rfl) rfl rfl)) trivial)) rfl fun _ => ?_
  refine ah ⟨.inr rfl, _, rfl, ((((decide ((0 : Int) ≤ b.tgt)) && (decide (b.tgt < (c.blocks.length : Int)))) && (b.els == 0)) && (b.reg == 0)), _, fR, (HS.forget z), rfl, (by refine Bool.eq_iff_iff.2 (Iff.trans ?_ dP.symm); first | omega | (simp [bK] <;> omega))⟩
 have c9 := an
 try simp only [BS] at c9
 refine wR 1 [] 55 56 [] [(55, (.bool (b.fin == 2)))] trivial rfl fun _ => ?_
 refine ap 1 1 (v := (b.fin == 2)) rfl rfl rfl rfl (fun T => ?_) (fun T => ?_)
 ·
  have ad := T
  try simp only [BS] at ad
  refine wR 1 [] 57 63 [4] [(4, (.bool ((((decide ((0 : Int) ≤ b.tgt)) && (decide (b.tgt < (c.blocks.length : Int)))) && ((decide ((0 : Int) ≤ b.els)) && (decide (b.els < (c.blocks.length : Int))))) && ((decide ((0 : Int) ≤ b.reg)) && (decide (b.reg < c.regs))))))] trivial rfl fun _ => ?_
  refine ah ⟨.inr rfl, _, rfl, ((((decide ((0 : Int) ≤ b.tgt)) && (decide (b.tgt < (c.blocks.length : Int)))) && ((decide ((0 : Int) ≤ b.els)) && (decide (b.els < (c.blocks.length : Int))))) && ((decide ((0 : Int) ≤ b.reg)) && (decide (b.reg < c.regs)))), _, fR, (HS.forget z), rfl, (by refine Bool.eq_iff_iff.2 (Iff.trans ?_ dP.symm); first | omega | (simp [bK] <;> omega))⟩
 have ad := T
 try simp only [BS] at ad
 refine wR 1 [] 64 65 [] [(64, (.bool (b.fin == 3)))] trivial rfl fun _ => ?_
 refine ap 1 1 (v := (b.fin == 3)) rfl rfl rfl rfl (fun U => ?_) (fun U => ?_)
 ·
  have ag := U
  try simp only [BS] at ag
  refine wR 1 [(3, .o (iI b.tgt)), (8, .o (iI b.els))] 66 76 [4] [(4, (.bool ((((decide ((0 : Int) ≤ b.reg)) && (decide (b.reg < c.regs))) && (b.tgt == 0)) && (b.els == 0))))] (vA (fun (A : ((decide ((0 : Int) ≤ b.reg)) && (decide (b.reg < c.regs))) = true) => (ql 3 3 (HS.hc z (i := 0) rfl) rfl rfl)) (vA (fun (A : (((decide ((0 : Int) ≤ b.reg)) && (decide (b.reg < c.regs))) && (b.tgt == 0)) = true) => (ql 3 4 (HS.hc z (i := 0) rfl) rfl rfl)) trivial)) rfl fun _ => ?_
  refine ah ⟨.inr rfl, _, rfl, ((((decide ((0 : Int) ≤ b.reg)) && (decide (b.reg < c.regs))) && (b.tgt == 0)) && (b.els == 0)), _, fR, (HS.forget z), rfl, (by refine Bool.eq_iff_iff.2 (Iff.trans ?_ dP.symm); first | omega | (simp [bK] <;> omega))⟩
 have ag := U
 try simp only [BS] at ag
 refine wR 1 [] 77 78 [] [(77, (.bool (b.fin == 4)))] trivial rfl fun _ => ?_
 refine ap 1 3 (v := (b.fin == 4)) rfl rfl rfl rfl (fun V => ?_) (fun V => ?_)
 ·
  have al := V
  try simp only [BS] at al
  refine wR 1 [(1, .o (iI b.tgt)), (5, .o (iI b.tgt)), (10, .o (iI b.els)), (15, .o (iI b.reg))] 79 96 [4] [(4, (.bool ((((decide ((1 : Int) ≤ b.tgt)) && (decide (b.tgt < 33554432))) && (b.els == 0)) && (b.reg == 0))))] (vA (ql 3 3 (HS.hc z (i := 0) rfl) rfl rfl) (vA (fun (A : (decide ((1 : Int) ≤ b.tgt)) = true) => (ql 3 3 (HS.hc z (i := 0) rfl) rfl rfl)) (vA (fun (A : ((decide ((1 : Int) ≤ b.tgt)) && (decide (b.tgt < 33554432))) = true) => (ql 3 4 (HS.hc z (i := 0) rfl) rfl rfl)) (vA (fun (A : (((decide ((1 : Int) ≤ b.tgt)) && (decide (b.tgt < 33554432))) && (b.els == 0)) = true) => (ql 3 2 (HS.hc z (i := 0) rfl) rfl rfl)) trivial)))) rfl fun _ => ?_
  refine ah ⟨.inr rfl, _, rfl, ((((decide ((1 : Int) ≤ b.tgt)) && (decide (b.tgt < 33554432))) && (b.els == 0)) && (b.reg == 0)), _, fR, (HS.forget z), rfl, (by refine Bool.eq_iff_iff.2 (Iff.trans ?_ dP.symm); first | omega | (simp [bK] <;> omega))⟩
 have al := V
 try simp only [BS] at al
 refine wR 1 [] 4 4 [] [(4, (.bool false))] trivial rfl fun _ => ?_
 refine ah ⟨.inr rfl, _, rfl, false, _, fR, (HS.forget z), rfl, (by refine Bool.eq_iff_iff.2 (Iff.trans ?_ dP.symm); first | omega | (simp [bK] <;> omega))⟩
set_option maxHeartbeats 1000000 in
theorem gE (ex : FuncId) {J : Option Addr} {T : Nat} (c : VFnT) {F : Fz} {H : Heap} {R : List Fp} (hs : HS (.of H []) F H [] R) (d4 : in64 c.params) (em : in64 c.regs) (A : SR F (.slice J c.blocks.length T) c.blocks) (hT : TB 37 tabC F) (hv : ∀ j, (c.blocks.getD j default).ins.length ≤ 9223372036854775807) : C Tryd.prog 1 (KT 60 ex 37 tabC) 53 [(.agg ⟨[(iI c.params), (iI c.regs), (.slice J c.blocks.length T)]⟩)] H fun v H' => ∃ (r : Bool) (F' : Fz), Fz.le F F' ∧ HS (.of H []) F' H' [] R ∧ v = .bool r ∧ r = dQ c := by
 refine aJ Tryd.func53 rfl rfl ?_
 refine aq 1 rfl ?_
 refine aa ?_
 refine aC (be hs rfl rfl) rfl rfl ?_
 rintro _ H2 _ ⟨b1, rfl, (ad : HS _ _ _ [[(b1, .cells [(iI c.params), (iI c.regs), (.slice J c.blocks.length T)] none false)]] _), _⟩
 refine wa (.bool false) rfl rfl rfl ?_
 refine ab 3 rfl ?_
 refine wR 1 [(1, .o (iI c.params)), (5, .o (iI c.params)), (10, .o (iI c.regs)), (15, .o (iI c.regs)), (20, .o (.slice J c.blocks.length T)), (26, .o (.slice J c.blocks.length T))] 6 35 [] [(35, (.bool ((((((decide (c.params < 0)) || (decide ((6 : Int) < c.params))) || (decide (c.regs < 0))) || (decide ((3000 : Int) < c.regs))) || (decide ((c.blocks.length : Int) < 1))) || (decide ((1000 : Int) < (c.blocks.length : Int))))))] (vA (ql 3 0 (HS.hc ad (i := 0) rfl) rfl rfl) (vA (fun (g1 : (decide (c.params < 0)) = false) => (ql 3 0 (HS.hc ad (i := 0) rfl) rfl rfl)) (vA (fun (g1 : ((decide (c.params < 0)) || (decide ((6 : Int) < c.params))) = false) => (ql 3 1 (HS.hc ad (i := 0) rfl) rfl rfl)) (vA (fun (g1 : (((decide (c.params < 0)) || (decide ((6 : Int) < c.params))) || (decide (c.regs < 0))) = false) => (ql 3 1 (HS.hc ad (i := 0) rfl) rfl rfl)) (vA (fun (g1 : ((((decide (c.params < 0)) || (decide ((6 : Int) < c.params))) || (decide (c.regs < 0))) || (decide ((3000 : Int) < c.regs))) = false) => (ql 22 2 (HS.hc ad (i := 0) rfl) rfl rfl)) (vA (fun (g1 : (((((decide (c.params < 0)) || (decide ((6 : Int) < c.params))) || (decide (c.regs < 0))) || (decide ((3000 : Int) < c.regs))) || (decide ((c.blocks.length : Int) < 1))) = false) => (ql 22 2 (HS.hc ad (i := 0) rfl) rfl rfl)) trivial)))))) rfl fun _ => ?_
 refine ap 1 3 (v := ((((((decide (c.params < 0)) || (decide ((6 : Int) < c.params))) || (decide (c.regs < 0))) || (decide ((3000 : Int) < c.regs))) || (decide ((c.blocks.length : Int) < 1))) || (decide ((1000 : Int) < (c.blocks.length : Int))))) rfl rfl rfl rfl (fun a7 => ?_) (fun a7 => ?_)
 ·
  have c4 := a7
  try simp only [BS] at c4
  refine wR 1 [] 2 2 [] [(2, (.bool false))] trivial rfl fun _ => ?_
  refine ah ⟨.inr rfl, _, rfl, false, _, fR, (HS.forget ad), rfl, (by exact val_lim (by omega))⟩
 have c4 := a7
 try simp only [BS] at c4
 have hlim : 0 ≤ c.params ∧ c.params ≤ 6 ∧ 0 ≤ c.regs ∧ c.regs ≤ 3000 ∧ 1 ≤ c.blocks.length ∧ c.blocks.length ≤ 1000 := by omega
 refine wR 2 [] 1 0 [3] [(3, (iI 0))] trivial rfl fun _ => ?_
 let b6 : Fp := [(b1, .cells [(iI c.params), (iI c.regs), (.slice J c.blocks.length T)] none false)]
 refine aE (fun (mm : Nat) f H' => ∃ (k : Nat) (F' : Fz), Fz.le F F' ∧ HS (Base.of H []) F' H' [b6] R ∧ aH f [(1, (.pointer (some ⟨b1, 0, none⟩))), (3, (iI (k : Int)))] ∧ mm = c.blocks.length - k ∧ (k ≤ c.blocks.length) ∧ (∀ j, j < k → blkV c.params c.regs (c.blocks.length : Int) (c.blocks.getD j default) = true)) _ ⟨0, _, fR, ad, (agC rfl (agC rfl agN)), rfl, (by first | assumption | omega | (simp at *; omega)), (by exact gW)⟩ ?_
 rintro e5 f7 H7 ⟨k, F7, al, an, b4, rfl, hk, ha⟩ c5
 refine au _ b4 (fun _ => ?_)
 clear b4
 replace hT := hT.mono al
 replace A := A.mono al
 have hvk := hv k
 refine aq 2 rfl ?_
 refine wR 1 [(2, .o (.slice J c.blocks.length T))] 36 40 [] [(40, (.bool (decide ((k : Int) < (c.blocks.length : Int)))))] (vA (ql 22 2 (HS.hc an (i := 0) rfl) rfl rfl) trivial) rfl fun _ => ?_
 refine ap 4 5 (v := (decide ((k : Int) < (c.blocks.length : Int)))) rfl rfl rfl rfl (fun a8 => ?_) (fun a8 => ?_)
 ·
  have c9 := a8
  try simp only [BS] at c9
  refine aa ?_
  obtain ⟨z, bk⟩ := Sv.view (SR.sv A an)
  obtain ⟨c6, c7, c8, dd, U⟩ := BlkT.fx (bk k)
  let ar : Value := (.agg ⟨[(.slice (cA (z k) 0) (c.blocks.getD k default).ins.length (cK (z k) 0)), (iI (c.blocks.getD k default).fin), (iI (c.blocks.getD k default).reg), (iI (c.blocks.getD k default).tgt), (iI (c.blocks.getD k default).els)]⟩)
  refine wRo 5 0 [(1, .o (.slice J c.blocks.length T)), (4, .o ar)] 43 47 [] [(47, ar)] (vA (ql 22 2 (HS.hc an (i := 0) rfl) rfl rfl) (vA (Sv.ix (j := (k : Int)) (SR.sv A an) (by omega) (by omega)) (vA (qn 48 0 5 (BlkT.vw (bk k) (by omega)) rfl rfl rfl rfl) trivial))) rfl fun _ => ?_
  refine aC (aR an rfl) rfl rfl ?_
  rintro _ e0 _ ⟨ag, rfl, (ch : HS _ _ _ [_, [(ag, .cells [(.slice none 0 0), (iI 0), (iI 0), (iI 0), (iI 0)] none false)]] _), _⟩
  refine aF (aw (q := 1) ch rfl rfl rfl rfl rfl rfl rfl rfl rfl) rfl ?_
  rintro _ e1 _ ⟨(av : HS _ _ _ [_, [(ag, .cells [(.slice (cA (z k) 0) (c.blocks.getD k default).ins.length (cK (z k) 0)), (iI (c.blocks.getD k default).fin), (iI (c.blocks.getD k default).reg), (iI (c.blocks.getD k default).tgt), (iI (c.blocks.getD k default).els)] none false)]] _), _⟩
  refine ab 3 rfl ?_
  refine aa ?_
  let a4 : Value := (.agg ⟨[(iI c.params), (iI c.regs), (.slice J c.blocks.length T)]⟩)
  refine wRo 2 0 [(0, .o ar), (1, .o a4)] 48 49 [] [(48, ar), (49, a4)] (vA (qn 48 0 5 (HS.hc av (i := 1) rfl) rfl rfl rfl rfl) (vA (qn 24 0 3 (HS.hc av (i := 0) rfl) rfl rfl rfl rfl) trivial)) rfl fun _ => ?_
  refine az (am rfl rfl rfl) rfl rfl (rEnd_c ex (⟨(c.blocks.getD k default).ins, (c.blocks.getD k default).fin, (c.blocks.getD k default).reg, (c.blocks.getD k default).tgt, (c.blocks.getD k default).els⟩ : BlkT) (⟨c.params, c.regs, c.blocks⟩ : VFnT) (HS.call av) U (by omega) (by omega) (by omega) (by omega) (by omega) (by omega) A hT) ?_
  rintro _ e2 ⟨e6, c0, V, ax, rfl, rfl⟩
  replace ax : HS _ _ _ [_, _] _ := HS.back av rfl ax
  replace hT := hT.mono V
  replace A := A.mono V
  replace U := U.mono V
  refine wRo 1 3 [] 51 51 [] [(51, (.bool (!(iP ((⟨c.params, c.regs, c.blocks⟩ : VFnT).blocks.length : Int) (⟨c.params, c.regs, c.blocks⟩ : VFnT).regs (⟨(c.blocks.getD k default).ins, (c.blocks.getD k default).fin, (c.blocks.getD k default).reg, (c.blocks.getD k default).tgt, (c.blocks.getD k default).els⟩ : BlkT)))))] trivial rfl fun _ => ?_
  refine ab 1 rfl ?_
  refine ap 1 2 (v := (!(iP ((⟨c.params, c.regs, c.blocks⟩ : VFnT).blocks.length : Int) (⟨c.params, c.regs, c.blocks⟩ : VFnT).regs (⟨(c.blocks.getD k default).ins, (c.blocks.getD k default).fin, (c.blocks.getD k default).reg, (c.blocks.getD k default).tgt, (c.blocks.getD k default).els⟩ : BlkT)))) rfl rfl rfl rfl (fun a0 => ?_) (fun a0 => ?_)
  ·
   have ay := a0
   try simp only [BS] at ay
   have h2 := ay
   refine wR 1 [] 2 2 [] [(2, (.bool false))] trivial rfl fun _ => ?_
   refine ah ⟨.inr rfl, _, rfl, false, _, (fT (al) V), (HS.forget ax), rfl, (by exact val_no (j7 (by omega) (blk_end h2)))⟩
  have ay := a0
  try simp only [BS] at ay
  have hend := ay
  refine wR 2 [] 1 0 [5] [(5, (iI 0))] trivial rfl fun _ => ?_
  refine aE (fun (mm : Nat) f H' => ∃ (i : Nat) (F' : Fz), Fz.le c0 F' ∧ HS (Base.of H []) F' H' [b6, [(ag, .cells [(.slice (cA (z k) 0) (c.blocks.getD k default).ins.length (cK (z k) 0)), (iI (c.blocks.getD k default).fin), (iI (c.blocks.getD k default).reg), (iI (c.blocks.getD k default).tgt), (iI (c.blocks.getD k default).els)] none false)]] R ∧ aH f [(1, (.pointer (some ⟨b1, 0, none⟩))), (3, (iI (k : Int))), (4, (.pointer (some ⟨ag, 0, none⟩))), (5, (iI (i : Int))), (40, (.bool (decide ((k : Int) < (c.blocks.length : Int))))), (47, ar), (48, ar), (49, a4), (50, (.bool (iP ((⟨c.params, c.regs, c.blocks⟩ : VFnT).blocks.length : Int) (⟨c.params, c.regs, c.blocks⟩ : VFnT).regs (⟨(c.blocks.getD k default).ins, (c.blocks.getD k default).fin, (c.blocks.getD k default).reg, (c.blocks.getD k default).tgt, (c.blocks.getD k default).els⟩ : BlkT)))), (51, (.bool (!(iP ((⟨c.params, c.regs, c.blocks⟩ : VFnT).blocks.length : Int) (⟨c.params, c.regs, c.blocks⟩ : VFnT).regs (⟨(c.blocks.getD k default).ins, (c.blocks.getD k default).fin, (c.blocks.getD k default).reg, (c.blocks.getD k default).tgt, (c.blocks.getD k default).els⟩ : BlkT)))))] ∧ mm = (c.blocks.getD k default).ins.length - i ∧ (i ≤ (c.blocks.getD k default).ins.length) ∧ (∀ j, j < i → fK c.params c.regs ((c.blocks.getD k default).ins.getD j default) = true)) _ ⟨0, _, fR, ax, (agC rfl (agC rfl (agC rfl (agC rfl (agC rfl (agC rfl (agC rfl (agC rfl (agC rfl (agC rfl agN)))))))))), rfl, (by first | assumption | omega | (simp at *; omega)), (by exact gW)⟩ ?_
  rintro es e4 e3 ⟨i, et, Z, N, bb, rfl, hi, hb⟩ ci
  refine au _ bb (fun _ => ?_)
  clear bb
  replace hT := hT.mono Z
  replace A := A.mono Z
  replace U := U.mono Z
  refine aq 2 rfl ?_
  refine wR 1 [(2, .o (.slice (cA (z k) 0) (c.blocks.getD k default).ins.length (cK (z k) 0)))] 52 56 [] [(56, (.bool (decide ((i : Int) < ((c.blocks.getD k default).ins.length : Int)))))] (vA (ql 46 0 (HS.hc N (i := 1) rfl) rfl rfl) trivial) rfl fun _ => ?_
  refine ap 4 5 (v := (decide ((i : Int) < ((c.blocks.getD k default).ins.length : Int)))) rfl rfl rfl rfl (fun a1 => ?_) (fun a1 => ?_)
  ·
   have a6 := a1
   try simp only [BS] at a6
   refine aQ rfl ?_
   refine aB (v := (.pointer (some ⟨ag, 0, none⟩))) (id := .v) (cg rfl rfl) rfl rfl (ep rfl) (dI _) ?_
   refine aB (v := (.slice (cA (z k) 0) (c.blocks.getD k default).ins.length (cK (z k) 0))) (id := .l ag) (bh (i := 0) rfl rfl (HS.hc N.log0 (i := 1) rfl) rfl rfl) rfl rfl (bg rfl) (⟨.inl rfl, trivial⟩) ?_
   refine fm (iI (i : Int)) rfl rfl rfl ?_
   refine aB (v := (.pointer (some ⟨sB (.slice (cA (z k) 0) (c.blocks.getD k default).ins.length (cK (z k) 0)), sO (.slice (cA (z k) 0) (c.blocks.getD k default).ins.length (cK (z k) 0)) + i * Rp.sz VInT, none⟩))) (id := .v) (br (α := VInT) (j := (i : Int)) rfl rfl rfl rfl (SR.sv U N.log0) (by omega) (by omega)) rfl rfl (ep rfl) (dI _) ?_
   obtain ⟨d1, cc, b9⟩ := Sv.at (SR.sv U N.log0) (aK (x := default) (show i < (c.blocks.getD k default).ins.length from by omega))
   obtain ⟨bl, b2, rfl, dk, dl, dn, ds, dt, b3⟩ := cc
   refine aB (v := (.agg ⟨[(iI ((c.blocks.getD k default).ins.getD i default).i.op), (iI ((c.blocks.getD k default).ins.getD i default).i.a), (iI ((c.blocks.getD k default).ins.getD i default).i.b), (iI ((c.blocks.getD k default).ins.getD i default).i.c), (iI ((c.blocks.getD k default).ins.getD i default).i.n), (.slice bl ((c.blocks.getD k default).ins.getD i default).args.length b2)]⟩)) (id := .l (sB (.slice (cA (z k) 0) (c.blocks.getD k default).ins.length (cK (z k) 0)))) (bQ (i := 0) rfl rfl rfl b9 rfl rfl rfl) rfl rfl (bg rfl) (⟨.inl rfl, ⟨.inl rfl, ⟨.inl rfl, ⟨.inl rfl, trivial⟩⟩⟩⟩) ?_
   refine aB (v := a4) (id := .l b1) (bQ (i := 0) rfl rfl rfl (HS.hc N.log0 (i := 0) rfl) rfl rfl rfl) rfl rfl (bg rfl) (⟨.inr trivial, ⟨.inr trivial, ⟨.inr trivial, ⟨.inr trivial, ⟨.inr trivial, trivial⟩⟩⟩⟩⟩) ?_
   refine aX (W := []) (am rfl rfl rfl) rfl rfl rfl (rinstr_c ex ((c.blocks.getD k default).ins.getD i default) (⟨c.params, c.regs, c.blocks⟩ : VFnT) (HS.call N.log0) (by omega) (by omega) (by omega) (by omega) (by omega) b3 (by omega) (by omega) A hT) (⟨.inl rfl, ⟨.inl rfl, ⟨.inl rfl, ⟨.inl rfl, ⟨.inl rfl, ⟨.inl rfl, trivial⟩⟩⟩⟩⟩⟩) ?_
   rintro _ c3 ⟨fd, ez, a9, E, rfl, rfl⟩
   refine ⟨Wr.did E.log, fun co b0 => ?_⟩
   replace E := HS.back N.log0 rfl E
   replace E := HS.lg E N b0
   generalize ({ c3 with log := co } : Heap) = dv at E ⊢
   have E : HS _ _ _ [_, _] _ := E
   refine aB (v := (.bool (!(fK (⟨c.params, c.regs, c.blocks⟩ : VFnT).params (⟨c.params, c.regs, c.blocks⟩ : VFnT).regs ((c.blocks.getD k default).ins.getD i default))))) (id := .v) (ap_not rfl) rfl rfl (ep rfl) (dI _) ?_
   refine bU ?_
   refine aq 1 rfl ?_
   refine ap 1 2 (v := (!(fK (⟨c.params, c.regs, c.blocks⟩ : VFnT).params (⟨c.params, c.regs, c.blocks⟩ : VFnT).regs ((c.blocks.getD k default).ins.getD i default)))) rfl rfl rfl rfl (fun a2 => ?_) (fun a2 => ?_)
   ·
    have a3 := a2
    try simp only [BS] at a3
    have h4 := a3
    refine wR 1 [] 2 2 [] [(2, (.bool false))] trivial rfl fun _ => ?_
    refine ah ⟨.inr rfl, _, rfl, false, _, (fT (fT (fT (al) V) Z) a9), (HS.forget E), rfl, (by exact val_no (j7 (by omega) (blk_no (j7 (by omega) h4))))⟩
   have a3 := a2
   try simp only [BS] at a3
   refine wR 1 [] 57 58 [5] [(5, (iI ((i : Int) + 1)))] (vA (vi (n := (i : Int) + 1) (by omega)) trivial) rfl fun _ => ?_
   refine ci _ _ _ ?_ ⟨i + 1, _, (fT (Z) a9), E, (agC rfl (agC rfl (agC rfl (agC rfl (agC rfl (agC rfl (agC rfl (agC rfl (agC rfl (agC rfl agN)))))))))), rfl, (by first | assumption | omega | (simp at *; omega)), (by exact gX hb (by assumption))⟩
   omega
  have a6 := a1
  try simp only [BS] at a6
  have hal := jA hb (by omega)
  refine wR 1 [] 41 42 [3] [(3, (iI ((k : Int) + 1)))] (vA (vi (n := (k : Int) + 1) (by omega)) trivial) rfl fun _ => ?_
  refine c5 _ _ _ ?_ ⟨k + 1, _, (fT (fT (al) V) Z), (HS.sub N (List.sublist_append_left _ _)), (agC rfl (agC rfl agN)), rfl, (by first | assumption | omega | (simp at *; omega)), (by exact gX ha (blk_yes hal hend))⟩
  omega
 have c9 := a8
 try simp only [BS] at c9
 refine wR 1 [] 2 2 [] [(2, (.bool true))] trivial rfl fun _ => ?_
 refine ah ⟨.inr rfl, _, rfl, true, _, (al), (HS.forget an), rfl, (by exact val_yes hlim (jA ha (by omega)))⟩
end Go.Proofs.YtknafdcgpaejlaaDoor.m3
