/-
 The generator of virtual code, function by function, each by a symbolic run: what it makes is valid. No condition but that the table lies as laid.
-/
import Derived.Test.YtknafdcgpaejlaaDoorZAM3
noncomputable section
namespace Go.Proofs.YtknafdcgpaejlaaDoor.m4
open Go.R
set_option maxRecDepth 10000
set_option linter.unusedVariables false
open m1 m2 m3
theorem wr64 (n : Int) : in64 (IntKind.i64.wrap n) := w64_in n
theorem td64 (n : Int) {m : Int} (h : 0 < m) : in64 (Int.tdiv (IntKind.i64.wrap n) m) := vq (wr64 n) (by omega)
theorem opOK_t {p : Prop} [Decidable p] {n r : Int} (h : p) (hn : 0 ≤ n ∧ n < r) : opOK (decide p) n r = true := by rw [decide_eq_true h]; exact regOK_iff.2 hn
theorem opOK_f {p : Prop} [Decidable p] {n r : Int} (h : ¬ p) (hn : n = 0) : opOK (decide p) n r = true := by rw [decide_eq_false h, hn]; rfl
def opG (op : Int) : Prop := (op = 3 ∨ op = 6 ∨ (9 ≤ op ∧ op ≤ 13) ∨ (15 ≤ op ∧ op ≤ 35)) ∧ alV op = true
theorem ops_al {op : Int} (h : 15 ≤ op ∧ op ≤ 32) : opG op := ⟨by omega, decide_eq_true (by omega)⟩
theorem lit12 {k : Nat} (h : k < 12) : opG (([3, 6, 9, 10, 11, 12, 13, 33, 34, 35, 10, 9] : List Int).getD k 0) := by
 have : ∀ k : Fin 12, ((([3, 6, 9, 10, 11, 12, 13, 33, 34, 35, 10, 9] : List Int).getD k.val 0) = 3 ∨ (([3, 6, 9, 10, 11, 12, 13, 33, 34, 35, 10, 9] : List Int).getD k.val 0) = 6 ∨ (9 ≤ (([3, 6, 9, 10, 11, 12, 13, 33, 34, 35, 10, 9] : List Int).getD k.val 0) ∧ (([3, 6, 9, 10, 11, 12, 13, 33, 34, 35, 10, 9] : List Int).getD k.val 0) ≤ 13) ∨ (15 ≤ (([3, 6, 9, 10, 11, 12, 13, 33, 34, 35, 10, 9] : List Int).getD k.val 0) ∧ (([3, 6, 9, 10, 11, 12, 13, 33, 34, 35, 10, 9] : List Int).getD k.val 0) ≤ 35)) ∧ alV (([3, 6, 9, 10, 11, 12, 13, 33, 34, 35, 10, 9] : List Int).getD k.val 0) = true := by decide
 exact this ⟨k, h⟩
theorem immT {p op n : Int} (h : op = 13 ∨ op = 33 ∧ -4194304 ≤ n ∧ n < 4194304 ∨ op = 6 ∧ 0 ≤ n ∧ n < 8 ∨ (op = 34 ∨ op = 35) ∧ 0 ≤ n ∧ n < 4 ∨ (op ≠ 13 ∧ op ≠ 33 ∧ op ≠ 6 ∧ op ≠ 34 ∧ op ≠ 35 ∧ op ≠ 38) ∧ n = 0) : immV p op n = true := by
 unfold immV
 (repeat' split) <;> first | rfl | (apply decide_eq_true; omega) | (exfalso; omega)
theorem all_app {p : Int → Bool} {l : List Int} {x : Int} (h : l.all p = true) (hx : p x = true) : (l ++ [x]).all p = true := by rw [List.all_append, h]; simp [hx]
theorem vin_mk {params regs op a b c n : Int} {l : List Int} (z : alV op = true) (A : op = 6 ∨ l.length = 0) (E : l.length ≤ 6) (I : l.all (regOK regs) = true) (J : opOK (decide (vformV op ≠ 1)) a regs = true) (N : opOK (decide (vformV op = 3 ∨ vformV op = 4 ∨ vformV op = 7)) b regs = true) (O : opOK (decide (vformV op = 4)) c regs = true) (T : immV params op n = true) : vinV params regs ⟨⟨op, a, b, c, n⟩, l⟩ = true := by
 unfold vinV
 simp only [z, decide_eq_true A, decide_eq_true E, I, J, N, O, T, Bool.and_self]
def ckI (v : VInT) : Bool := decide ((v.i.op = 6 → (v.i.n = 0 ∧ v.args.length = 2 ∨ v.i.n = 1 ∧ v.args.length = 1)) ∧ (v.i.op = 34 ∨ v.i.op = 35 → v.i.n < 2))
theorem next_c (ex : FuncId) {b_d : Nat} (d : DigT) (m : Int) {F : Fz} {H : Heap} {R : List Fp} (hs : HS (.of H [b_d]) F H [[(b_d, .cells [(.int .i64 d.n)] none false)]] R) (A : in64 d.n) (hm : in64 m) (hT : TB 37 tabC F) (hm : 0 < m) : C Tryd.prog 1 (KT 60 ex 37 tabC) 46 [(.pointer (some ⟨b_d, 0, none⟩)), (.int .i64 m)] H fun v H' => ∃ (r : Int) (d' : DigT) (F' : Fz), Fz.le F F' ∧ HS (.of H [b_d]) F' H' [[(b_d, .cells [(.int .i64 d'.n)] none false)]] R ∧ v = .int .i64 r ∧ in64 d'.n ∧ (0 ≤ r ∧ r < m) := by
 refine c_enter Tryd.func46 rfl rfl ?_
 refine wk_foc 1 rfl ?_
 refine wr 2 [] 4 4 [] [(4, (.int .i64 0))] trivial (by kernel_rfl) rfl fun _ => ?_
 have E := pick_imp d.n m
 refine wr 2 [(3, .o (.int .i64 d.n)), (5, .o (.int .i64 (pickV d.n m)))] 6 11 [5] [(5, (.int .i64 (pickV d.n m)))] (vA (ql 3 0 (HS.hc hs (i := 0) rfl) rfl rfl) (vA (m1.pick_c_q ex d.n m H (by first | omega | exact wr64 _ | exact td64 _ (by omega))) trivial)) (by kernel_rfl) rfl fun _ => ?_
 refine wk_region ?_
 refine wro 11 0 [(4, .o (.int .i64 d.n)), (6, .w)] 12 22 [] [(20, (.int .i64 (Int.tdiv (IntKind.i64.wrap (d.n - (pickV d.n m))) m))), (22, (.pointer (some ⟨b_d, 0, none⟩)))] (vA (ql 3 0 (HS.hc hs (i := 0) rfl) rfl rfl) (vA (vA (show m ≠ 0 from by first | omega | exact wr64 _ | exact td64 _ (by omega)) (vq (a := IntKind.i64.wrap (d.n - (pickV d.n m))) (b := m) (by first | omega | exact wr64 _ | exact td64 _ (by omega)) (by first | omega | exact wr64 _ | exact td64 _ (by omega)))) trivial)) (by kernel_rfl) rfl fun _ => ?_
 refine wo_rk (rs_rec (q := 0) hs rfl rfl rfl rfl rfl rfl rfl rfl rfl) rfl ?_
 rintro _ I _ ⟨z, _⟩
 have z : HS _ _ _ [[(b_d, .cells [(.int .i64 (Int.tdiv (IntKind.i64.wrap (d.n - (pickV d.n m))) m))] none false)]] _ := z
 refine wo_end 2 rfl ?_
 refine wr 1 [] 4 4 [23] [(4, (.int .i64 (pickV d.n m)))] trivial (by kernel_rfl) rfl fun _ => ?_
 refine wk_ret ⟨.inr rfl, _, rfl, pickV d.n m, (⟨Int.tdiv (IntKind.i64.wrap (d.n - (pickV d.n m))) m⟩ : DigT), _, (Fz.le_refl _), (HS.first z), rfl, (by first | omega | exact wr64 _ | exact td64 _ (by omega)), (by first | assumption | omega | simp_all)⟩
theorem word_c (ex : FuncId) (n : Int) (raw : Int) {F : Fz} {H : Heap} {R : List Fp} (hs : HS (.of H []) F H [] R) (hn : in64 n) (hraw : in64 raw) (hT : TB 37 tabC F) : C Tryd.prog 1 (KT 60 ex 37 tabC) 47 [(.int .i64 n), (.int .i64 raw)] H fun v H' => ∃ (r : Int) (F' : Fz), Fz.le F F' ∧ HS (.of H []) F' H' [] R ∧ v = .int .i64 r ∧ (in64 r) := by
 refine c_enter Tryd.func47 rfl rfl ?_
 refine wk_foc 1 rfl ?_
 refine wr 2 [] 4 4 [] [(4, (.int .i64 0))] trivial (by kernel_rfl) rfl fun _ => ?_
 refine wk_region ?_
 refine wo_rs (rs_lit (α := Int) (ps := [(0, (.int .i64 0)), (1, (.int .i64 1)), (2, (.int .i64 (-1))), (3, (.int .i64 2)), (4, (.int .i64 (-9223372036854775808))), (5, (.int .i64 9223372036854775807)), (6, (.int .i64 4294967296)), (7, (.int .i64 (-2147483648))), (8, (.int .i64 63)), (9, (.int .i64 64))]) (cells := [(.int .i64 0), (.int .i64 1), (.int .i64 (-1)), (.int .i64 2), (.int .i64 (-9223372036854775808)), (.int .i64 9223372036854775807), (.int .i64 4294967296), (.int .i64 (-2147483648)), (.int .i64 63), (.int .i64 64)]) ([0, 1, (-1), 2, (-9223372036854775808), 9223372036854775807, 4294967296, (-2147483648), 63, 64] : List Int) hs rfl rfl rfl (by kernel_rfl) ⟨[(.int .i64 0)], _, rfl, ⟨rfl, by omega⟩, ⟨[(.int .i64 1)], _, rfl, ⟨rfl, by omega⟩, ⟨[(.int .i64 (-1))], _, rfl, ⟨rfl, by omega⟩, ⟨[(.int .i64 2)], _, rfl, ⟨rfl, by omega⟩, ⟨[(.int .i64 (-9223372036854775808))], _, rfl, ⟨rfl, by omega⟩, ⟨[(.int .i64 9223372036854775807)], _, rfl, ⟨rfl, by omega⟩, ⟨[(.int .i64 4294967296)], _, rfl, ⟨rfl, by omega⟩, ⟨[(.int .i64 (-2147483648))], _, rfl, ⟨rfl, by omega⟩, ⟨[(.int .i64 63)], _, rfl, ⟨rfl, by omega⟩, ⟨[(.int .i64 64)], _, rfl, ⟨rfl, by omega⟩, rfl⟩⟩⟩⟩⟩⟩⟩⟩⟩⟩ rfl) rfl rfl ?_
 rintro _ T Y ⟨U, k2, rfl, J, z, _⟩
 have z : HS _ _ _ [Y] _ := z
 refine wa (.slice U ([0, 1, (-1), 2, (-9223372036854775808), 9223372036854775807, 4294967296, (-2147483648), 63, 64] : List Int).length k2) rfl rfl rfl ?_
 refine wo_end 2 rfl ?_
 have ab := pick_imp n (24 : Int)
 refine wr 4 [(1, .o (.int .i64 (pickV n (24 : Int))))] 8 9 [6] [(6, (.int .i64 (pickV n (24 : Int))))] (vA (m1.pick_c_q ex n (24) T (by omega)) trivial) (by kernel_rfl) rfl fun _ => ?_
 refine wr 1 [] 10 12 [] [(10, (.bool (decide (pickV n (24 : Int) < 10))))] trivial (by kernel_rfl) rfl fun _ => ?_
 refine wk_if 1 1 (v := (decide (pickV n (24 : Int) < 10))) rfl rfl rfl rfl (fun I => ?_) (fun I => ?_)
 ·
  have O := I
  try simp only [BS] at O
  obtain ⟨aa, N⟩ := Sv.view (OS.sv J z (i := 0) rfl)
  have g9 := fI (N (pickV n (24 : Int)).toNat)
  refine wr 1 [(3, .o (.int .i64 (([0, 1, (-1), 2, (-9223372036854775808), 9223372036854775807, 4294967296, (-2147483648), 63, 64] : List Int).getD (pickV n (24 : Int)).toNat 0)))] 13 16 [4] [(4, (.int .i64 (([0, 1, (-1), 2, (-9223372036854775808), 9223372036854775807, 4294967296, (-2147483648), 63, 64] : List Int).getD (pickV n (24 : Int)).toNat 0)))] (vA (Sv.ix (j := pickV n (24 : Int)) (OS.sv J z (i := 0) rfl) (by omega) (show pickV n (24 : Int) < (10 : Int) from by omega)) (vA (ql 2 0 (vI (N (pickV n (24 : Int)).toNat) (show (pickV n (24 : Int)).toNat < 10 from by omega)) rfl rfl) trivial)) (by kernel_rfl) rfl fun _ => ?_
  refine wk_ret ⟨.inr rfl, _, rfl, (([0, 1, (-1), 2, (-9223372036854775808), 9223372036854775807, 4294967296, (-2147483648), 63, 64] : List Int).getD (pickV n (24 : Int)).toNat 0), _, (Fz.le_refl _), (HS.forget z), rfl, (by omega)⟩
 ·
  have O := I
  try simp only [BS] at O
  refine wr 1 [] 17 19 [] [(17, (.bool (decide (pickV n (24 : Int) < 22))))] trivial (by kernel_rfl) rfl fun _ => ?_
  refine wk_if 1 3 (v := (decide (pickV n (24 : Int) < 22))) rfl rfl rfl rfl (fun A => ?_) (fun A => ?_)
  ·
   have E := A
   try simp only [BS] at E
   have Z : in64 n → in64 (Int.tdiv n 24) := fun h => vq h (by decide)
   have V := pick_imp (Int.tdiv n 24) (17 : Int)
   refine wr 1 [(2, .o (.int .i64 (pickV (Int.tdiv n 24) (17 : Int))))] 20 23 [4] [(4, (.int .i64 ((pickV (Int.tdiv n 24) (17 : Int)) - 6)))] (vA (vA (show (24 : Int) ≠ 0 from by decide) (vq (a := n) (b := 24) (by omega) (by decide))) (vA (m1.pick_c_q ex (Int.tdiv n 24) (17) T (by omega)) (vA (vi (n := (pickV (Int.tdiv n 24) (17 : Int)) - 6) (by omega)) trivial))) (by kernel_rfl) rfl fun _ => ?_
   refine wk_ret ⟨.inr rfl, _, rfl, (pickV (Int.tdiv n 24) (17 : Int)) - 6, _, (Fz.le_refl _), (HS.forget z), rfl, (by omega)⟩
  ·
   have E := A
   try simp only [BS] at E
   refine wr 1 [] 4 4 [24] [(4, (.int .i64 raw))] trivial (by kernel_rfl) rfl fun _ => ?_
   refine wk_ret ⟨.inr rfl, _, rfl, raw, _, (Fz.le_refl _), (HS.forget z), rfl, (by omega)⟩
set_option maxHeartbeats 1000000 in
theorem vi_c (ex : FuncId) (n : Int) {ad : Option Addr} {ak : Nat} (c : VFnT) {F : Fz} {H : Heap} {R : List Fp} (hs : HS (.of H []) F H [] R) (hn : in64 n) (ds : in64 c.params) (dt : in64 c.regs) (hT : TB 37 tabC F) (hr : 1 ≤ c.regs ∧ c.regs ≤ 3000) : C Tryd.prog 1 (KT 60 ex 37 tabC) 31 [(.int .i64 n), (.agg ⟨[(.int .i64 c.params), (.int .i64 c.regs), (.slice ad c.blocks.length ak)]⟩)] H fun v H' => ∃ (x : VInT) (bn : Option Addr) (cd : Nat) (F' : Fz), Fz.le F F' ∧ HS (.of H []) F' H' [] R ∧ v = .agg ⟨[.int .i64 x.i.op, .int .i64 x.i.a, .int .i64 x.i.b, .int .i64 x.i.c, .int .i64 x.i.n, .slice bn x.args.length cd]⟩ ∧ in64 x.i.op ∧ in64 x.i.a ∧ in64 x.i.b ∧ in64 x.i.c ∧ in64 x.i.n ∧ SR F' (.slice bn x.args.length cd) x.args ∧ (vinV c.params c.regs x = true) ∧ (ckI x = true) := by
 refine c_enter Tryd.func31 rfl rfl ?_
 refine wk_foc 1 rfl ?_
 refine wk_region ?_
 refine wo_rs (rs_box hs rfl rfl) rfl rfl ?_
 rintro _ H2 _ ⟨b1, rfl, aN, _⟩
 have aN : HS _ _ _ [[(b1, .cells [(.int .i64 c.params), (.int .i64 c.regs), (.slice ad c.blocks.length ak)] none false)]] _ := aN
 refine wo_rs (rs_new aN rfl) rfl rfl ?_
 rintro _ H4 _ ⟨b3, rfl, b2, _⟩
 have b2 : HS _ _ _ [_, [(b3, .cells [(.int .i64 0), (.int .i64 0), (.int .i64 0), (.int .i64 0), (.int .i64 0), (.slice none 0 0)] none false)]] _ := b2
 refine wo_end 2 rfl ?_
 refine wk_region ?_
 refine wro 2 0 [] 14 15 [] [(15, (.agg ⟨[(.int .i64 n)]⟩))] trivial (by kernel_rfl) rfl fun _ => ?_
 refine wo_rs (rs_box b2 rfl rfl) rfl rfl ?_
 rintro _ H7 _ ⟨J, rfl, b5, _⟩
 have b5 : HS _ _ _ [_, _, [(J, .cells [(.int .i64 n)] none false)]] _ := b5
 refine wa (.pointer (some ⟨J, 0, none⟩)) rfl rfl rfl ?_
 refine wo_end 2 rfl ?_
 refine wk_region ?_
 refine wo_rs (rs_lit (α := Int) (ps := [(0, (.int .i64 3)), (1, (.int .i64 6)), (2, (.int .i64 9)), (3, (.int .i64 10)), (4, (.int .i64 11)), (5, (.int .i64 12)), (6, (.int .i64 13)), (7, (.int .i64 33)), (8, (.int .i64 34)), (9, (.int .i64 35)), (10, (.int .i64 10)), (11, (.int .i64 9))]) (cells := [(.int .i64 3), (.int .i64 6), (.int .i64 9), (.int .i64 10), (.int .i64 11), (.int .i64 12), (.int .i64 13), (.int .i64 33), (.int .i64 34), (.int .i64 35), (.int .i64 10), (.int .i64 9)]) ([3, 6, 9, 10, 11, 12, 13, 33, 34, 35, 10, 9] : List Int) b5 rfl rfl rfl (by kernel_rfl) ⟨[(.int .i64 3)], _, rfl, ⟨rfl, by first | omega | (dsimp only; omega)⟩, ⟨[(.int .i64 6)], _, rfl, ⟨rfl, by first | omega | (dsimp only; omega)⟩, ⟨[(.int .i64 9)], _, rfl, ⟨rfl, by first | omega | (dsimp only; omega)⟩, ⟨[(.int .i64 10)], _, rfl, ⟨rfl, by first | omega | (dsimp only; omega)⟩, ⟨[(.int .i64 11)], _, rfl, ⟨rfl, by first | omega | (dsimp only; omega)⟩, ⟨[(.int .i64 12)], _, rfl, ⟨rfl, by first | omega | (dsimp only; omega)⟩, ⟨[(.int .i64 13)], _, rfl, ⟨rfl, by first | omega | (dsimp only; omega)⟩, ⟨[(.int .i64 33)], _, rfl, ⟨rfl, by first | omega | (dsimp only; omega)⟩, ⟨[(.int .i64 34)], _, rfl, ⟨rfl, by first | omega | (dsimp only; omega)⟩, ⟨[(.int .i64 35)], _, rfl, ⟨rfl, by first | omega | (dsimp only; omega)⟩, ⟨[(.int .i64 10)], _, rfl, ⟨rfl, by first | omega | (dsimp only; omega)⟩, ⟨[(.int .i64 9)], _, rfl, ⟨rfl, by first | omega | (dsimp only; omega)⟩, rfl⟩⟩⟩⟩⟩⟩⟩⟩⟩⟩⟩⟩ rfl) rfl rfl ?_
 rintro _ H9 p8 ⟨a8, k8, rfl, bg, bh, _⟩
 have bh : HS _ _ _ [_, _, _, p8] _ := bh
 refine wa (.slice a8 ([3, 6, 9, 10, 11, 12, 13, 33, 34, 35, 10, 9] : List Int).length k8) rfl rfl rfl ?_
 refine wo_end 2 rfl ?_
 refine wk_region ?_
 refine wm (.pointer (some ⟨J, 0, none⟩)) rfl rfl rfl ?_
 refine wo_call (ap_call rfl rfl rfl) rfl rfl (next_c ex (⟨n⟩ : DigT) (18) (HS.callOwn bh (i := 2) rfl) (by first | omega | (dsimp only; omega)) (by first | omega | (dsimp only; omega)) hT (by first | omega | (dsimp only; omega))) ?_
 rintro _ dM ⟨cg, bC, dC, a1, aq, rfl, c6, eo⟩
 replace aq := HS.backOwn bh (i := 2) rfl rfl (fun _ hb => hb) aq
 have aq : HS _ _ _ [_, _, [(J, .cells [(.int .i64 bC.n)] none false)], _] _ := aq
 replace hT := hT.mono a1
 refine wro 2 2 [] 20 20 [7] [(7, (.int .i64 (15 + cg)))] (vA (vi (n := 15 + cg) (by first | omega | (dsimp only; omega))) trivial) (by kernel_rfl) rfl fun _ => ?_
 refine wo_end 3 rfl ?_
 refine wk_region ?_
 refine wm (.pointer (some ⟨J, 0, none⟩)) rfl rfl rfl ?_
 refine wo_call (ap_call rfl rfl rfl) rfl rfl (next_c ex (⟨bC.n⟩ : DigT) (24) (HS.callOwn aq (i := 2) rfl) (by first | omega | (dsimp only; omega)) (by first | omega | (dsimp only; omega)) hT (by first | omega | (dsimp only; omega))) ?_
 rintro _ co ⟨aa, a0, dD, a2, ae, rfl, c7, ep⟩
 replace ae := HS.backOwn aq (i := 2) rfl rfl (fun _ hb => hb) ae
 have ae : HS _ _ _ [_, _, [(J, .cells [(.int .i64 a0.n)] none false)], _] _ := ae
 replace hT := hT.mono a2
 replace bg := (bg.mono a1).mono a2
 refine wa (.int .i64 aa) rfl rfl rfl ?_
 refine wo_end 2 rfl ?_
 refine wr 1 [] 23 26 [] [(26, (.bool (decide (aa < 12))))] trivial (by kernel_rfl) rfl fun _ => ?_
 refine wk_join (fun f H' => ∃ (z : Int), H' = co ∧ agrees f [(0, (.int .i64 n)), (3, (.pointer (some ⟨b1, 0, none⟩))), (4, (.pointer (some ⟨b3, 0, none⟩))), (5, (.pointer (some ⟨J, 0, none⟩))), (7, (.int .i64 z))] ∧ (opG z)) (fun b8 => ?_) ?_
 ·
  refine wk_if 0 0 (v := (decide (aa < 12))) rfl rfl rfl rfl (fun aR => ?_) (fun aR => ?_)
  ·
   have bo := aR
   try simp only [BS] at bo
   obtain ⟨dr, b7⟩ := Sv.view (OS.sv bg ae (i := 3) rfl)
   have en := fI (b7 aa.toNat)
   refine wr 0 [(3, .o (.int .i64 (([3, 6, 9, 10, 11, 12, 13, 33, 34, 35, 10, 9] : List Int).getD aa.toNat 0)))] 27 30 [7] [(7, (.int .i64 (([3, 6, 9, 10, 11, 12, 13, 33, 34, 35, 10, 9] : List Int).getD aa.toNat 0)))] (vA (Sv.ix (j := aa) (OS.sv bg ae (i := 3) rfl) (by first | omega | (dsimp only; omega)) (show aa < (12 : Int) from by first | omega | (dsimp only; omega))) (vA (ql 3 0 (vI (b7 aa.toNat) (show aa.toNat < 12 from by first | omega | (dsimp only; omega))) rfl rfl) trivial)) (by kernel_rfl) rfl fun _ => ?_
   exact b8 _ _ ⟨(([3, 6, 9, 10, 11, 12, 13, 33, 34, 35, 10, 9] : List Int).getD aa.toNat 0), rfl, (agC rfl (agC rfl (agC rfl (agC rfl (agC rfl agN))))), (by first | exact lit12 (by omega) | exact ops_al (by omega))⟩
  ·
   have bo := aR
   try simp only [BS] at bo
   exact b8 _ _ ⟨15 + cg, rfl, (agC rfl (agC rfl (agC rfl (agC rfl (agC rfl agN))))), (by first | exact lit12 (by omega) | exact ops_al (by omega))⟩
 ·
  rintro eh co ⟨z, rfl, bU, ho⟩
  refine wk_canon _ bU (fun _ => ?_)
  clear bU
  have hf := vform_cases ho.2
  have hvf : vformV z = (infV z).form := if_neg (by have := ho.1; omega)
  have eC := ho.1
  refine wk_foc 2 rfl ?_
  refine wk_region ?_
  refine wro 3 0 [] 31 33 [] [(33, (.agg ⟨[(.int .i64 z), (.int .i64 0), (.int .i64 0), (.int .i64 0), (.int .i64 0), (.slice none 0 0)]⟩))] trivial (by kernel_rfl) rfl fun _ => ?_
  refine wo_rs (rs_new ae rfl) rfl rfl ?_
  rintro _ dN _ ⟨A, rfl, a4, _⟩
  have a4 : HS _ _ _ [_, _, _, _, [(A, .cells [(.int .i64 0), (.int .i64 0), (.int .i64 0), (.int .i64 0), (.int .i64 0), (.slice none 0 0)] none false)]] _ := a4
  refine wo_rk (rs_rec (q := 4) a4 rfl rfl rfl rfl rfl rfl rfl rfl rfl) rfl ?_
  rintro _ dO _ ⟨aI, _⟩
  have aI : HS _ _ _ [_, _, _, _, [(A, .cells [(.int .i64 z), (.int .i64 0), (.int .i64 0), (.int .i64 0), (.int .i64 0), (.slice none 0 0)] none false)]] _ := aI
  refine wo_end 2 rfl ?_
  refine wk_region ?_
  refine wm (.int .i64 z) rfl rfl rfl ?_
  refine wo_call (ap_call rfl rfl rfl) rfl rfl (m1.rInfo_c ex z (HS.call aI) (by first | omega | (dsimp only; omega)) hT) ?_
  rintro _ dP ⟨eF, eE, cT, bN, ax, rfl, cR, cS, rfl, rfl⟩
  replace ax := HS.back aI rfl ax
  have ax : HS _ _ _ [_, _, _, _, _] _ := ax
  replace hT := hT.mono bN
  refine wro 3 2 [] 37 38 [34] [(37, (.agg ⟨[(.string ⟨⟨(infV z).name.b⟩⟩), (.int .i64 (infV z).form), (.bool (infV z).ra), (.bool (infV z).wa), (.bool (infV z).rb), (.bool (infV z).mt), (.int .i64 (infV z).words)]⟩)), (38, (.bool (infO z)))] trivial (by kernel_rfl) rfl fun _ => ?_
  refine wo_rs (rs_new ax rfl) rfl rfl ?_
  rintro _ dQ _ ⟨aw, rfl, a5, _⟩
  have a5 : HS _ _ _ [_, _, _, _, _, [(aw, .cells [(.string ⟨⟨[]⟩⟩), (.int .i64 0), (.bool false), (.bool false), (.bool false), (.bool false), (.int .i64 0)] none false)]] _ := a5
  refine wo_rk (rs_rec (q := 5) a5 rfl rfl rfl rfl rfl rfl rfl rfl rfl) rfl ?_
  rintro _ dR _ ⟨ag, _⟩
  have ag : HS _ _ _ [_, _, _, _, _, [(aw, .cells [(.string ⟨⟨(infV z).name.b⟩⟩), (.int .i64 (infV z).form), (.bool (infV z).ra), (.bool (infV z).wa), (.bool (infV z).rb), (.bool (infV z).mt), (.int .i64 (infV z).words)] none false)]] _ := ag
  refine wa (.bool (infO z)) rfl rfl rfl ?_
  refine wo_end 2 rfl ?_
  refine wr 3 [(1, .o (.int .i64 (infV z).form))] 39 40 [12] [(12, (.int .i64 (infV z).form))] (vA (ql 3 1 (HS.hc ag (i := 5) rfl) rfl rfl) trivial) (by kernel_rfl) rfl fun _ => ?_
  refine wr 1 [] 41 42 [] [(42, (.bool ((infV z).form != 1)))] trivial (by kernel_rfl) rfl fun _ => ?_
  refine wk_join (fun f H' => ∃ (ja : Int) (aO : DigT) (F' : Fz), Fz.le cT F' ∧ HS (Base.of H []) F' H' [[(b1, .cells [(.int .i64 c.params), (.int .i64 c.regs), (.slice ad c.blocks.length ak)] none false)], [(b3, .cells [(.int .i64 0), (.int .i64 0), (.int .i64 0), (.int .i64 0), (.int .i64 0), (.slice none 0 0)] none false)], [(J, .cells [(.int .i64 aO.n)] none false)], p8, [(A, .cells [(.int .i64 z), (.int .i64 ja), (.int .i64 0), (.int .i64 0), (.int .i64 0), (.slice none 0 0)] none false)], [(aw, .cells [(.string ⟨⟨(infV z).name.b⟩⟩), (.int .i64 (infV z).form), (.bool (infV z).ra), (.bool (infV z).wa), (.bool (infV z).rb), (.bool (infV z).mt), (.int .i64 (infV z).words)] none false)]] R ∧ agrees f [(0, (.int .i64 n)), (3, (.pointer (some ⟨b1, 0, none⟩))), (4, (.pointer (some ⟨b3, 0, none⟩))), (5, (.pointer (some ⟨J, 0, none⟩))), (7, (.int .i64 z)), (9, (.pointer (some ⟨A, 0, none⟩))), (12, (.int .i64 (infV z).form))] ∧ (opOK (decide (vformV z ≠ 1)) ja c.regs = true) ∧ (in64 ja) ∧ (in64 aO.n)) (fun b9 => ?_) ?_
  ·
   refine wk_if 0 0 (v := ((infV z).form != 1)) rfl rfl rfl rfl (fun aS => ?_) (fun aS => ?_)
   ·
    have bp := aS
    try simp only [BS] at bp
    refine wk_region ?_
    refine wro 3 0 [(2, .o (.int .i64 c.regs))] 43 45 [] [(43, (.pointer (some ⟨J, 0, none⟩))), (45, (.int .i64 c.regs))] (vA (ql 3 1 (HS.hc ag (i := 0) rfl) rfl rfl) trivial) (by kernel_rfl) rfl fun _ => ?_
    refine wo_call (ap_call rfl rfl rfl) rfl rfl (next_c ex (⟨a0.n⟩ : DigT) c.regs (HS.callOwn ag (i := 2) rfl) (by first | omega | (dsimp only; omega)) (by first | omega | (dsimp only; omega)) hT (by first | omega | (dsimp only; omega))) ?_
    rintro _ dT ⟨cr, bD, dE, cy, ay, rfl, c8, er⟩
    replace ay := HS.backOwn ag (i := 2) rfl rfl (fun _ hb => hb) ay
    have ay : HS _ _ _ [_, _, [(J, .cells [(.int .i64 bD.n)] none false)], _, _, _] _ := ay
    refine wro 2 4 [] 47 48 [] [(48, (.pointer (some ⟨A, 1, none⟩)))] trivial (by kernel_rfl) rfl fun _ => ?_
    refine wo_rk (rs_rec (q := 4) ay rfl rfl rfl rfl rfl rfl rfl rfl rfl) rfl ?_
    rintro _ dU _ ⟨a6, _⟩
    have a6 : HS _ _ _ [_, _, _, _, [(A, .cells [(.int .i64 z), (.int .i64 cr), (.int .i64 0), (.int .i64 0), (.int .i64 0), (.slice none 0 0)] none false)], _] _ := a6
    refine wo_end 0 rfl ?_
    exact b9 _ _ ⟨cr, (⟨bD.n⟩ : DigT), _, (cy), a6, (agC rfl (agC rfl (agC rfl (agC rfl (agC rfl (agC rfl (agC rfl agN))))))), (by first | exact opOK_t (by omega) (by omega) | exact opOK_f (by omega) rfl), (by first | assumption | omega | (simp at *; omega)), (by first | assumption | omega | (simp at *; omega))⟩
   ·
    have bp := aS
    try simp only [BS] at bp
    exact b9 _ _ ⟨0, (⟨a0.n⟩ : DigT), _, (Fz.le_refl _), ag, (agC rfl (agC rfl (agC rfl (agC rfl (agC rfl (agC rfl (agC rfl agN))))))), (by first | exact opOK_t (by omega) (by omega) | exact opOK_f (by omega) rfl), (by first | assumption | omega | (simp at *; omega)), (by first | assumption | omega | (simp at *; omega))⟩
  ·
   rintro ei dS ⟨ja, aO, cU, bO, aJ, bV, hja, rja, dy⟩
   refine wk_canon _ bV (fun _ => ?_)
   clear bV
   replace hT := hT.mono bO
   refine wk_foc 3 rfl ?_
   refine wr 1 [] 49 58 [] [(58, (.bool ((((infV z).form == 3) || ((infV z).form == 4)) || ((infV z).form == 7))))] trivial (by kernel_rfl) rfl fun _ => ?_
   refine wk_join (fun f H' => ∃ (jb : Int) (aP : DigT) (F' : Fz), Fz.le cU F' ∧ HS (Base.of H []) F' H' [[(b1, .cells [(.int .i64 c.params), (.int .i64 c.regs), (.slice ad c.blocks.length ak)] none false)], [(b3, .cells [(.int .i64 0), (.int .i64 0), (.int .i64 0), (.int .i64 0), (.int .i64 0), (.slice none 0 0)] none false)], [(J, .cells [(.int .i64 aP.n)] none false)], p8, [(A, .cells [(.int .i64 z), (.int .i64 ja), (.int .i64 jb), (.int .i64 0), (.int .i64 0), (.slice none 0 0)] none false)], [(aw, .cells [(.string ⟨⟨(infV z).name.b⟩⟩), (.int .i64 (infV z).form), (.bool (infV z).ra), (.bool (infV z).wa), (.bool (infV z).rb), (.bool (infV z).mt), (.int .i64 (infV z).words)] none false)]] R ∧ agrees f [(0, (.int .i64 n)), (3, (.pointer (some ⟨b1, 0, none⟩))), (4, (.pointer (some ⟨b3, 0, none⟩))), (5, (.pointer (some ⟨J, 0, none⟩))), (7, (.int .i64 z)), (9, (.pointer (some ⟨A, 0, none⟩))), (12, (.int .i64 (infV z).form))] ∧ (opOK (decide (vformV z = 3 ∨ vformV z = 4 ∨ vformV z = 7)) jb c.regs = true) ∧ (in64 jb) ∧ (in64 aP.n)) (fun ca => ?_) ?_
   ·
    refine wk_if 0 0 (v := ((((infV z).form == 3) || ((infV z).form == 4)) || ((infV z).form == 7))) rfl rfl rfl rfl (fun aT => ?_) (fun aT => ?_)
    ·
     have br := aT
     try simp only [BS] at br
     refine wk_region ?_
     refine wro 3 0 [(2, .o (.int .i64 c.regs))] 59 61 [] [(59, (.pointer (some ⟨J, 0, none⟩))), (61, (.int .i64 c.regs))] (vA (ql 3 1 (HS.hc aJ (i := 0) rfl) rfl rfl) trivial) (by kernel_rfl) rfl fun _ => ?_
     refine wo_call (ap_call rfl rfl rfl) rfl rfl (next_c ex (⟨aO.n⟩ : DigT) c.regs (HS.callOwn aJ (i := 2) rfl) (by first | omega | (dsimp only; omega)) (by first | omega | (dsimp only; omega)) hT (by first | omega | (dsimp only; omega))) ?_
     rintro _ dW ⟨ct, bE, dF, cz, az, rfl, c9, es⟩
     replace az := HS.backOwn aJ (i := 2) rfl rfl (fun _ hb => hb) az
     have az : HS _ _ _ [_, _, [(J, .cells [(.int .i64 bE.n)] none false)], _, [(A, .cells [(.int .i64 z), (.int .i64 ja), (.int .i64 0), (.int .i64 0), (.int .i64 0), (.slice none 0 0)] none false)], _] _ := az
     refine wro 2 4 [] 63 64 [] [(64, (.pointer (some ⟨A, 2, none⟩)))] trivial (by kernel_rfl) rfl fun _ => ?_
     refine wo_rk (rs_rec (q := 4) az rfl rfl rfl rfl rfl rfl rfl rfl rfl) rfl ?_
     rintro _ dX _ ⟨a7, _⟩
     have a7 : HS _ _ _ [_, _, _, _, [(A, .cells [(.int .i64 z), (.int .i64 ja), (.int .i64 ct), (.int .i64 0), (.int .i64 0), (.slice none 0 0)] none false)], _] _ := a7
     refine wo_end 0 rfl ?_
     exact ca _ _ ⟨ct, (⟨bE.n⟩ : DigT), _, (cz), a7, (agC rfl (agC rfl (agC rfl (agC rfl (agC rfl (agC rfl (agC rfl agN))))))), (by first | exact opOK_t (by omega) (by omega) | exact opOK_f (by omega) rfl), (by first | assumption | omega | (simp at *; omega)), (by first | assumption | omega | (simp at *; omega))⟩
    ·
     have br := aT
     try simp only [BS] at br
     exact ca _ _ ⟨0, (⟨aO.n⟩ : DigT), _, (Fz.le_refl _), aJ, (agC rfl (agC rfl (agC rfl (agC rfl (agC rfl (agC rfl (agC rfl agN))))))), (by first | exact opOK_t (by omega) (by omega) | exact opOK_f (by omega) rfl), (by first | assumption | omega | (simp at *; omega)), (by first | assumption | omega | (simp at *; omega))⟩
   ·
    rintro ej dV ⟨jb, aP, cV, bP, aK, bW, hjb, rjb, dz⟩
    refine wk_canon _ bW (fun _ => ?_)
    clear bW
    replace hT := hT.mono bP
    refine wk_foc 3 rfl ?_
    refine wr 1 [] 65 66 [] [(66, (.bool ((infV z).form == 4)))] trivial (by kernel_rfl) rfl fun _ => ?_
    refine wk_join (fun f H' => ∃ (jc : Int) (am : DigT) (F' : Fz), Fz.le cV F' ∧ HS (Base.of H []) F' H' [[(b1, .cells [(.int .i64 c.params), (.int .i64 c.regs), (.slice ad c.blocks.length ak)] none false)], [(b3, .cells [(.int .i64 0), (.int .i64 0), (.int .i64 0), (.int .i64 0), (.int .i64 0), (.slice none 0 0)] none false)], [(J, .cells [(.int .i64 am.n)] none false)], p8, [(A, .cells [(.int .i64 z), (.int .i64 ja), (.int .i64 jb), (.int .i64 jc), (.int .i64 0), (.slice none 0 0)] none false)], [(aw, .cells [(.string ⟨⟨(infV z).name.b⟩⟩), (.int .i64 (infV z).form), (.bool (infV z).ra), (.bool (infV z).wa), (.bool (infV z).rb), (.bool (infV z).mt), (.int .i64 (infV z).words)] none false)]] R ∧ agrees f [(0, (.int .i64 n)), (3, (.pointer (some ⟨b1, 0, none⟩))), (4, (.pointer (some ⟨b3, 0, none⟩))), (5, (.pointer (some ⟨J, 0, none⟩))), (7, (.int .i64 z)), (9, (.pointer (some ⟨A, 0, none⟩)))] ∧ (opOK (decide (vformV z = 4)) jc c.regs = true) ∧ (in64 jc) ∧ (in64 am.n)) (fun cb => ?_) ?_
    ·
     refine wk_if 0 0 (v := ((infV z).form == 4)) rfl rfl rfl rfl (fun aU => ?_) (fun aU => ?_)
     ·
      have bt := aU
      try simp only [BS] at bt
      refine wk_region ?_
      refine wro 3 0 [(2, .o (.int .i64 c.regs))] 67 69 [] [(67, (.pointer (some ⟨J, 0, none⟩))), (69, (.int .i64 c.regs))] (vA (ql 3 1 (HS.hc aK (i := 0) rfl) rfl rfl) trivial) (by kernel_rfl) rfl fun _ => ?_
      refine wo_call (ap_call rfl rfl rfl) rfl rfl (next_c ex (⟨aP.n⟩ : DigT) c.regs (HS.callOwn aK (i := 2) rfl) (by first | omega | (dsimp only; omega)) (by first | omega | (dsimp only; omega)) hT (by first | omega | (dsimp only; omega))) ?_
      rintro _ dZ ⟨cu, bF, dG, cB, aA, rfl, da, et⟩
      replace aA := HS.backOwn aK (i := 2) rfl rfl (fun _ hb => hb) aA
      have aA : HS _ _ _ [_, _, [(J, .cells [(.int .i64 bF.n)] none false)], _, [(A, .cells [(.int .i64 z), (.int .i64 ja), (.int .i64 jb), (.int .i64 0), (.int .i64 0), (.slice none 0 0)] none false)], _] _ := aA
      refine wro 2 4 [] 71 72 [] [(72, (.pointer (some ⟨A, 3, none⟩)))] trivial (by kernel_rfl) rfl fun _ => ?_
      refine wo_rk (rs_rec (q := 4) aA rfl rfl rfl rfl rfl rfl rfl rfl rfl) rfl ?_
      rintro _ d1 _ ⟨a9, _⟩
      have a9 : HS _ _ _ [_, _, _, _, [(A, .cells [(.int .i64 z), (.int .i64 ja), (.int .i64 jb), (.int .i64 cu), (.int .i64 0), (.slice none 0 0)] none false)], _] _ := a9
      refine wo_end 0 rfl ?_
      exact cb _ _ ⟨cu, (⟨bF.n⟩ : DigT), _, (cB), a9, (agC rfl (agC rfl (agC rfl (agC rfl (agC rfl (agC rfl agN)))))), (by first | exact opOK_t (by omega) (by omega) | exact opOK_f (by omega) rfl), (by first | assumption | omega | (simp at *; omega)), (by first | assumption | omega | (simp at *; omega))⟩
     ·
      have bt := aU
      try simp only [BS] at bt
      exact cb _ _ ⟨0, (⟨aP.n⟩ : DigT), _, (Fz.le_refl _), aK, (agC rfl (agC rfl (agC rfl (agC rfl (agC rfl (agC rfl agN)))))), (by first | exact opOK_t (by omega) (by omega) | exact opOK_f (by omega) rfl), (by first | assumption | omega | (simp at *; omega)), (by first | assumption | omega | (simp at *; omega))⟩
    ·
     rintro ek dY ⟨jc, am, cm, bQ, U, bX, hjc, rjc, dA⟩
     refine wk_canon _ bX (fun _ => ?_)
     clear bX
     replace hT := hT.mono bQ
     refine wk_foc 3 rfl ?_
     refine wr 3 [] 73 73 [] [(73, (.int .i64 z))] trivial (by kernel_rfl) rfl fun _ => ?_
     refine wr 1 [] 74 75 [] [(74, (.bool (z == 13)))] trivial (by kernel_rfl) rfl fun _ => ?_
     refine wk_join (fun f H' => ∃ (jq : Int) (asl : List Int) (bj : DigT) (E : Option Addr) (I : Nat) (F' : Fz), Fz.le cm F' ∧ HS (Base.of H []) F' H' [[(b1, .cells [(.int .i64 c.params), (.int .i64 c.regs), (.slice ad c.blocks.length ak)] none false)], [(b3, .cells [(.int .i64 0), (.int .i64 0), (.int .i64 0), (.int .i64 0), (.int .i64 0), (.slice none 0 0)] none false)], [(J, .cells [(.int .i64 bj.n)] none false)], p8, [(A, .cells [(.int .i64 z), (.int .i64 ja), (.int .i64 jb), (.int .i64 jc), (.int .i64 jq), (.slice E asl.length I)] none false)], [(aw, .cells [(.string ⟨⟨(infV z).name.b⟩⟩), (.int .i64 (infV z).form), (.bool (infV z).ra), (.bool (infV z).wa), (.bool (infV z).rb), (.bool (infV z).mt), (.int .i64 (infV z).words)] none false)]] R ∧ SR F' (.slice E asl.length I) asl ∧ agrees f [(4, (.pointer (some ⟨b3, 0, none⟩))), (9, (.pointer (some ⟨A, 0, none⟩)))] ∧ (immV c.params z jq = true) ∧ (in64 jq) ∧ ((z = 6 ∨ asl.length = 0) ∧ asl.length ≤ 6) ∧ (asl.all (regOK c.regs) = true) ∧ ((z = 6 → (jq = 0 ∧ asl.length = 2 ∨ jq = 1 ∧ asl.length = 1)) ∧ (z = 34 ∨ z = 35 → jq < 2)) ∧ (in64 bj.n)) (fun av => ?_) ?_
     ·
      refine wk_if 0 1 (v := (z == 13)) rfl rfl rfl rfl (fun aV => ?_) (fun aV => ?_)
      ·
       have bu := aV
       try simp only [BS] at bu
       refine wk_region ?_
       refine wm (.pointer (some ⟨J, 0, none⟩)) rfl rfl rfl ?_
       refine wo_call (ap_call rfl rfl rfl) rfl rfl (next_c ex (⟨am.n⟩ : DigT) (400) (HS.callOwn U (i := 2) rfl) (by first | omega | (dsimp only; omega)) (by first | omega | (dsimp only; omega)) hT (by first | omega | (dsimp only; omega))) ?_
       rintro _ d3 ⟨dj, bG, dI, bR, ar, rfl, db, eu⟩
       replace ar := HS.backOwn U (i := 2) rfl rfl (fun _ hb => hb) ar
       have ar : HS _ _ _ [_, _, [(J, .cells [(.int .i64 bG.n)] none false)], _, [(A, .cells [(.int .i64 z), (.int .i64 ja), (.int .i64 jb), (.int .i64 jc), (.int .i64 0), (.slice none 0 0)] none false)], _] _ := ar
       replace hT := hT.mono bR
       refine wm (.int .i64 n) rfl rfl rfl ?_
       refine wo_call (ap_call rfl rfl rfl) rfl rfl (word_c ex dj n (HS.call ar) (by first | omega | (dsimp only; omega)) (by first | omega | (dsimp only; omega)) hT) ?_
       rintro _ d4 ⟨cv, cW, cE, aB, rfl, ev⟩
       replace aB := HS.back ar rfl aB
       have aB : HS _ _ _ [_, _, _, _, _, _] _ := aB
       refine wro 2 4 [] 80 81 [] [(81, (.pointer (some ⟨A, 4, none⟩)))] trivial (by kernel_rfl) rfl fun _ => ?_
       refine wo_rk (rs_rec (q := 4) aB rfl rfl rfl rfl rfl rfl rfl rfl rfl) rfl ?_
       rintro _ d5 _ ⟨ba, _⟩
       have ba : HS _ _ _ [_, _, _, _, [(A, .cells [(.int .i64 z), (.int .i64 ja), (.int .i64 jb), (.int .i64 jc), (.int .i64 cv), (.slice none 0 0)] none false)], _] _ := ba
       refine wo_end 0 rfl ?_
       exact av _ _ ⟨cv, ([] : List Int), (⟨bG.n⟩ : DigT), none, 0, _, (Fz.le_trans (bR) cE), ba, (SR.nil : SR cW (.slice none 0 0) ([] : List Int)), (agC rfl (agC rfl agN)), (by exact immT (by omega)), (by first | assumption | omega | (simp at *; omega)), (by first | omega | (simp <;> omega)), (by first | assumption | rfl), (by first | omega | (simp <;> omega)), (by first | assumption | omega | (simp at *; omega))⟩
      ·
       have bu := aV
       try simp only [BS] at bu
       refine wr 1 [] 82 83 [] [(82, (.bool (z == 33)))] trivial (by kernel_rfl) rfl fun _ => ?_
       refine wk_if 0 2 (v := (z == 33)) rfl rfl rfl rfl (fun aW => ?_) (fun aW => ?_)
       ·
        have bw := aW
        try simp only [BS] at bw
        refine wk_region ?_
        refine wm (.pointer (some ⟨J, 0, none⟩)) rfl rfl rfl ?_
        refine wo_call (ap_call rfl rfl rfl) rfl rfl (next_c ex (⟨am.n⟩ : DigT) (9) (HS.callOwn U (i := 2) rfl) (by first | omega | (dsimp only; omega)) (by first | omega | (dsimp only; omega)) hT (by first | omega | (dsimp only; omega))) ?_
        rintro _ d6 ⟨bk, bH, cX, cF, aC, rfl, dd, ew⟩
        replace aC := HS.backOwn U (i := 2) rfl rfl (fun _ hb => hb) aC
        have aC : HS _ _ _ [_, _, [(J, .cells [(.int .i64 bH.n)] none false)], _, [(A, .cells [(.int .i64 z), (.int .i64 ja), (.int .i64 jb), (.int .i64 jc), (.int .i64 0), (.slice none 0 0)] none false)], _] _ := aC
        refine wro 3 2 [] 86 88 [] [(86, (.int .i64 (bk - 4))), (88, (.pointer (some ⟨A, 4, none⟩)))] (vA (vi (n := bk - 4) (by first | omega | (dsimp only; omega))) trivial) (by kernel_rfl) rfl fun _ => ?_
        refine wo_rk (rs_rec (q := 4) aC rfl rfl rfl rfl rfl rfl rfl rfl rfl) rfl ?_
        rintro _ d7 _ ⟨bb, _⟩
        have bb : HS _ _ _ [_, _, _, _, [(A, .cells [(.int .i64 z), (.int .i64 ja), (.int .i64 jb), (.int .i64 jc), (.int .i64 (bk - 4)), (.slice none 0 0)] none false)], _] _ := bb
        refine wo_end 0 rfl ?_
        exact av _ _ ⟨bk - 4, ([] : List Int), (⟨bH.n⟩ : DigT), none, 0, _, (cF), bb, (SR.nil : SR cX (.slice none 0 0) ([] : List Int)), (agC rfl (agC rfl agN)), (by exact immT (by omega)), (by first | assumption | omega | (simp at *; omega)), (by first | omega | (simp <;> omega)), (by first | assumption | rfl), (by first | omega | (simp <;> omega)), (by first | assumption | omega | (simp at *; omega))⟩
       ·
        have bw := aW
        try simp only [BS] at bw
        refine wr 1 [] 89 90 [] [(89, (.bool (z == 34)))] trivial (by kernel_rfl) rfl fun _ => ?_
        refine wk_if 1 0 (v := (z == 34)) rfl rfl rfl rfl (fun aH => ?_) (fun aH => ?_)
        ·
         have bx := aH
         try simp only [BS] at bx
         refine wk_ift 0 (v := (z == 34)) rfl aH rfl rfl ?_
         refine wk_region ?_
         refine wm (.pointer (some ⟨J, 0, none⟩)) rfl rfl rfl ?_
         refine wo_call (ap_call rfl rfl rfl) rfl rfl (next_c ex (⟨am.n⟩ : DigT) (2) (HS.callOwn U (i := 2) rfl) (by first | omega | (dsimp only; omega)) (by first | omega | (dsimp only; omega)) hT (by first | omega | (dsimp only; omega))) ?_
         rintro _ d8 ⟨cw, bJ, cY, cG, aD, rfl, de, ey⟩
         replace aD := HS.backOwn U (i := 2) rfl rfl (fun _ hb => hb) aD
         have aD : HS _ _ _ [_, _, [(J, .cells [(.int .i64 bJ.n)] none false)], _, [(A, .cells [(.int .i64 z), (.int .i64 ja), (.int .i64 jb), (.int .i64 jc), (.int .i64 0), (.slice none 0 0)] none false)], _] _ := aD
         refine wro 2 2 [] 94 95 [] [(95, (.pointer (some ⟨A, 4, none⟩)))] trivial (by kernel_rfl) rfl fun _ => ?_
         refine wo_rk (rs_rec (q := 4) aD rfl rfl rfl rfl rfl rfl rfl rfl rfl) rfl ?_
         rintro _ d9 _ ⟨bc, _⟩
         have bc : HS _ _ _ [_, _, _, _, [(A, .cells [(.int .i64 z), (.int .i64 ja), (.int .i64 jb), (.int .i64 jc), (.int .i64 cw), (.slice none 0 0)] none false)], _] _ := bc
         refine wo_end 0 rfl ?_
         exact av _ _ ⟨cw, ([] : List Int), (⟨bJ.n⟩ : DigT), none, 0, _, (cG), bc, (SR.nil : SR cY (.slice none 0 0) ([] : List Int)), (agC rfl (agC rfl agN)), (by exact immT (by omega)), (by first | assumption | omega | (simp at *; omega)), (by first | omega | (simp <;> omega)), (by first | assumption | rfl), (by first | omega | (simp <;> omega)), (by first | assumption | omega | (simp at *; omega))⟩
        ·
         have bx := aH
         try simp only [BS] at bx
         refine wr 1 [] 89 91 [] [(89, (.bool (z == 35)))] trivial (by kernel_rfl) rfl fun _ => ?_
         refine wk_if 0 1 (v := (z == 35)) rfl rfl rfl rfl (fun aX => ?_) (fun aX => ?_)
         ·
          have bz := aX
          try simp only [BS] at bz
          refine wk_region ?_
          refine wm (.pointer (some ⟨J, 0, none⟩)) rfl rfl rfl ?_
          refine wo_call (ap_call rfl rfl rfl) rfl rfl (next_c ex (⟨am.n⟩ : DigT) (2) (HS.callOwn U (i := 2) rfl) (by first | omega | (dsimp only; omega)) (by first | omega | (dsimp only; omega)) hT (by first | omega | (dsimp only; omega))) ?_
          rintro _ ea ⟨cx, bK, cZ, cH, aE, rfl, df, ez⟩
          replace aE := HS.backOwn U (i := 2) rfl rfl (fun _ hb => hb) aE
          have aE : HS _ _ _ [_, _, [(J, .cells [(.int .i64 bK.n)] none false)], _, [(A, .cells [(.int .i64 z), (.int .i64 ja), (.int .i64 jb), (.int .i64 jc), (.int .i64 0), (.slice none 0 0)] none false)], _] _ := aE
          refine wro 2 2 [] 94 95 [] [(95, (.pointer (some ⟨A, 4, none⟩)))] trivial (by kernel_rfl) rfl fun _ => ?_
          refine wo_rk (rs_rec (q := 4) aE rfl rfl rfl rfl rfl rfl rfl rfl rfl) rfl ?_
          rintro _ eb _ ⟨bd, _⟩
          have bd : HS _ _ _ [_, _, _, _, [(A, .cells [(.int .i64 z), (.int .i64 ja), (.int .i64 jb), (.int .i64 jc), (.int .i64 cx), (.slice none 0 0)] none false)], _] _ := bd
          refine wo_end 0 rfl ?_
          exact av _ _ ⟨cx, ([] : List Int), (⟨bK.n⟩ : DigT), none, 0, _, (cH), bd, (SR.nil : SR cZ (.slice none 0 0) ([] : List Int)), (agC rfl (agC rfl agN)), (by exact immT (by omega)), (by first | assumption | omega | (simp at *; omega)), (by first | omega | (simp <;> omega)), (by first | assumption | rfl), (by first | omega | (simp <;> omega)), (by first | assumption | omega | (simp at *; omega))⟩
         ·
          have bz := aX
          try simp only [BS] at bz
          refine wr 1 [] 96 97 [] [(96, (.bool (z == 6)))] trivial (by kernel_rfl) rfl fun _ => ?_
          refine wk_if 1 0 (v := (z == 6)) rfl rfl rfl rfl (fun aY => ?_) (fun aY => ?_)
          ·
           have bA := aY
           try simp only [BS] at bA
           refine wk_region ?_
           refine wm (.pointer (some ⟨J, 0, none⟩)) rfl rfl rfl ?_
           refine wo_call (ap_call rfl rfl rfl) rfl rfl (next_c ex (⟨am.n⟩ : DigT) (2) (HS.callOwn U (i := 2) rfl) (by first | omega | (dsimp only; omega)) (by first | omega | (dsimp only; omega)) hT (by first | omega | (dsimp only; omega))) ?_
           rintro _ ec ⟨ab, bL, cn, bS, aF, rfl, dg, eA⟩
           replace aF := HS.backOwn U (i := 2) rfl rfl (fun _ hb => hb) aF
           have aF : HS _ _ _ [_, _, [(J, .cells [(.int .i64 bL.n)] none false)], _, [(A, .cells [(.int .i64 z), (.int .i64 ja), (.int .i64 jb), (.int .i64 jc), (.int .i64 0), (.slice none 0 0)] none false)], _] _ := aF
           refine wro 2 2 [] 100 101 [] [(101, (.pointer (some ⟨A, 4, none⟩)))] trivial (by kernel_rfl) rfl fun _ => ?_
           refine wo_rk (rs_rec (q := 4) aF rfl rfl rfl rfl rfl rfl rfl rfl rfl) rfl ?_
           rintro _ ed _ ⟨aL, _⟩
           have aL : HS _ _ _ [_, _, _, _, [(A, .cells [(.int .i64 z), (.int .i64 ja), (.int .i64 jb), (.int .i64 jc), (.int .i64 ab), (.slice none 0 0)] none false)], _] _ := aL
           refine wo_end 2 rfl ?_
           refine wr 2 [(2, .o (.int .i64 ab))] 102 105 [13] [(13, (.int .i64 (2 - ab)))] (vA (ql 2 4 (HS.hc aL (i := 4) rfl) rfl rfl) (vA (vi (n := 2 - ab) (by first | omega | (dsimp only; omega))) trivial)) (by kernel_rfl) rfl fun _ => ?_
           have be := HS.snoc aL
           have be : HS _ _ _ [_, _, _, _, _, _, []] _ := be
           refine wk_loop_inv (fun (mm : Nat) f H' => ∃ (kk : Int) (al : List Int) (dl : DigT) (T : Fp) (N : Option Addr) (O : Nat) (F' : Fz), Fz.le cn F' ∧ HS (Base.of H []) F' H' [[(b1, .cells [(.int .i64 c.params), (.int .i64 c.regs), (.slice ad c.blocks.length ak)] none false)], [(b3, .cells [(.int .i64 0), (.int .i64 0), (.int .i64 0), (.int .i64 0), (.int .i64 0), (.slice none 0 0)] none false)], [(J, .cells [(.int .i64 dl.n)] none false)], p8, [(A, .cells [(.int .i64 z), (.int .i64 ja), (.int .i64 jb), (.int .i64 jc), (.int .i64 ab), (.slice N al.length O)] none false)], [(aw, .cells [(.string ⟨⟨(infV z).name.b⟩⟩), (.int .i64 (infV z).form), (.bool (infV z).ra), (.bool (infV z).wa), (.bool (infV z).rb), (.bool (infV z).mt), (.int .i64 (infV z).words)] none false)], T] R ∧ OS F' (.slice N al.length O) al T ∧ agrees f [(3, (.pointer (some ⟨b1, 0, none⟩))), (4, (.pointer (some ⟨b3, 0, none⟩))), (5, (.pointer (some ⟨J, 0, none⟩))), (9, (.pointer (some ⟨A, 0, none⟩))), (13, (.int .i64 kk))] ∧ mm = kk.toNat ∧ ((al.length : Int) + kk = 2 - ab ∧ 0 ≤ kk) ∧ (al.all (regOK c.regs) = true) ∧ (in64 dl.n) ∧ (kk ≤ 2)) _ ⟨2 - ab, ([] : List Int), (⟨bL.n⟩ : DigT), [], none, 0, _, (Fz.le_refl _), be, (OS.nil : OS cn (.slice none 0 0) ([] : List Int) []), (agC rfl (agC rfl (agC rfl (agC rfl (agC rfl agN))))), rfl, (by simp; omega), (by rfl), (by first | assumption | omega | (simp at *; omega)), (by first | assumption | omega | (simp at *; omega))⟩ ?_
           rintro dw em ee ⟨kk, al, dl, T, N, O, dJ, a3, ah, V, bZ, rfl, q1, q2, q3, q4⟩ cM
           refine wk_canon _ bZ (fun _ => ?_)
           clear bZ
           replace hT := (hT.mono bS).mono a3
           refine wk_foc 2 rfl ?_
           refine wr 1 [] 106 107 [] [(107, (.bool (decide ((0 : Int) < kk))))] trivial (by kernel_rfl) rfl fun _ => ?_
           refine wk_if 3 3 (v := (decide ((0 : Int) < kk))) rfl rfl rfl rfl (fun aZ => ?_) (fun aZ => ?_)
           ·
            have bB := aZ
            try simp only [BS] at bB
            refine wf_region rfl ?_
            refine wf_pure (v := (.pointer (some ⟨A, 5, none⟩))) (id := .v) (ap_fa rfl rfl) rfl rfl (did_v rfl) (okD_v _) ?_
            refine wf_pure (v := (.slice N al.length O)) (id := .l A) (ap_ld1 (i := 5) rfl rfl (HS.hc ah.log0 (i := 4) rfl) rfl rfl) rfl rfl (did_l rfl) (⟨.inl rfl, trivial⟩) ?_
            refine fm (.pointer (some ⟨J, 0, none⟩)) rfl rfl rfl ?_
            refine wf_pure (v := (.pointer (some ⟨b1, 1, none⟩))) (id := .v) (ap_fa rfl rfl) rfl rfl (did_v rfl) (okD_v _) ?_
            refine wf_pure (v := (.int .i64 c.regs)) (id := .l b1) (ap_ld1 (i := 1) rfl rfl (HS.hc ah.log0 (i := 0) rfl) rfl rfl) rfl rfl (did_l rfl) (⟨.inl rfl, ⟨.inr trivial, ⟨.inr trivial, ⟨.inr trivial, trivial⟩⟩⟩⟩) ?_
            refine wf_call (W := [J]) (ap_call rfl rfl rfl) rfl rfl rfl (next_c ex (⟨dl.n⟩ : DigT) c.regs (HS.callOwn ah.log0 (i := 2) rfl) (by first | omega | (dsimp only; omega)) (by first | omega | (dsimp only; omega)) hT (by first | omega | (dsimp only; omega))) (⟨.inl rfl, ⟨.inl rfl, ⟨.inl rfl, ⟨.inr (HS.nin ah (i := 4) (j := 2) rfl rfl (by decide) (by simp)), ⟨.inr trivial, trivial⟩⟩⟩⟩⟩) ?_
            rintro _ c0 ⟨aG, bM, dK, bT, Y, rfl, dh, eB⟩
            refine ⟨HS.didW Y, fun cN ch => ?_⟩
            replace Y := HS.backOwn ah.log0 (i := 2) rfl rfl (fun _ hb => hb) Y
            replace Y := HS.lg Y ah ch
            generalize ({ c0 with log := cN } : Heap) = dk at Y ⊢
            have Y : HS _ _ _ [_, _, [(J, .cells [(.int .i64 bM.n)] none false)], _, [(A, .cells [(.int .i64 z), (.int .i64 ja), (.int .i64 jb), (.int .i64 jc), (.int .i64 ab), (.slice N al.length O)] none false)], _, T] _ := Y
            replace V := V.mono bT
            refine wf_rs (id := .a) (rs_lit (α := Int) (ps := [(0, (.int .i64 aG))]) (cells := [(.int .i64 aG)]) ([aG] : List Int) Y.log0 rfl rfl rfl (by kernel_rfl) ⟨[(.int .i64 aG)], [], rfl, ⟨rfl, by first | omega | (dsimp only; omega)⟩, rfl⟩ rfl) rfl rfl (fun _ _ _ _ => did_a rfl rfl rfl) (⟨.inl rfl, ⟨.inl rfl, ⟨.inl rfl, ⟨.inl rfl, ⟨.inr trivial, ⟨.inr trivial, trivial⟩⟩⟩⟩⟩⟩) ?_
            rintro _ c3 di ⟨eg, eD, rfl, cJ, Z, _⟩ cO ci
            replace Z := HS.lg Z Y ci
            generalize ({ c3 with log := cO } : Heap) = dm at Z ⊢
            have Z : HS _ _ _ [_, _, _, _, _, _, _, di] _ := Z
            refine wf_rs (id := .x (T.map Prod.fst)) (rs_app (α := Int) (q := 6) V Z.log0 rfl rfl rfl (OS.sv cJ Z.log0 (i := 7) rfl) rfl rfl rfl rfl rfl rfl rfl (by first | omega | (simp only [List.length_append, List.length_cons, List.length_nil]; omega))) rfl rfl (by rintro _ _ ce ⟨bm, cc, rfl, b0, _, hwr⟩; exact did_x rfl rfl (Wr.did hwr)) (⟨.inl rfl, ⟨.inl rfl, ⟨.inl rfl, ⟨.inl rfl, ⟨.inl rfl, ⟨.inl rfl, ⟨.inl rfl, trivial⟩⟩⟩⟩⟩⟩⟩) ?_
            rintro _ c4 ce ⟨bm, cc, rfl, b0, aj, _⟩ cP cj
            replace aj := HS.lg aj Z cj
            generalize ({ c4 with log := cP } : Heap) = dn at aj ⊢
            have aj : HS _ _ _ [_, _, _, _, _, _, ce, _] _ := aj
            refine wf_pure (v := (.pointer (some ⟨A, 5, none⟩))) (id := .v) (ap_fa rfl rfl) rfl rfl (did_v rfl) (okD_v _) ?_
            refine wf_rk (id := .x [A]) (rs_rec (q := 4) aj.log0 rfl rfl rfl rfl rfl rfl rfl rfl rfl) rfl (by rintro _ _ _ ⟨_, hwr⟩; exact did_x rfl rfl (Wr.did hwr)) (⟨.inl rfl, ⟨.inl rfl, ⟨.inl rfl, ⟨.inl rfl, ⟨.inl rfl, ⟨.inl rfl, ⟨.inl rfl, ⟨.inl rfl, ⟨.inl rfl, trivial⟩⟩⟩⟩⟩⟩⟩⟩⟩) ?_
            rintro _ c5 _ ⟨au, _⟩ cQ cl
            replace au := HS.lg au aj cl
            generalize ({ c5 with log := cQ } : Heap) = dp at au ⊢
            have au : HS _ _ _ [_, _, _, _, [(A, .cells [(.int .i64 z), (.int .i64 ja), (.int .i64 jb), (.int .i64 jc), (.int .i64 ab), (.slice bm (al ++ ([aG] : List Int)).length cc)] none false)], _, _, _] _ := au
            refine wf_nil ?_
            refine wk_foc 2 rfl ?_
            refine wr 1 [] 108 109 [13] [(13, (.int .i64 (kk - 1)))] (vA (vi (n := kk - 1) (by first | omega | (dsimp only; omega))) trivial) (by kernel_rfl) rfl fun _ => ?_
            refine cM _ _ _ ?_ ⟨kk - 1, al ++ ([aG] : List Int), (⟨bM.n⟩ : DigT), ce, bm, cc, _, (Fz.le_trans (a3) bT), (HS.sub au (List.sublist_append_left _ _)), b0, (agC rfl (agC rfl (agC rfl (agC rfl (agC rfl agN))))), rfl, (by simp; omega), (by exact all_app q2 (regOK_iff.2 (by omega))), (by first | assumption | omega | (simp at *; omega)), (by first | assumption | omega | (simp at *; omega))⟩
            omega
           ·
            have bB := aZ
            try simp only [BS] at bB
            obtain ⟨dL, cI, bf, cL, du⟩ := OS.frz V ah (i := 6) rfl
            have bf : HS _ _ _ [_, _, [(J, .cells [(.int .i64 dl.n)] none false)], _, [(A, .cells [(.int .i64 z), (.int .i64 ja), (.int .i64 jb), (.int .i64 jc), (.int .i64 ab), (.slice N al.length O)] none false)], _, _] _ := bf
            exact av _ _ ⟨ab, al, (⟨dl.n⟩ : DigT), N, O, _, (Fz.le_trans (Fz.le_trans (bS) a3) cI), (HS.sub bf (List.sublist_append_left _ _)), cL, (agC rfl (agC rfl agN)), (by exact immT (by omega)), (by first | assumption | omega | (simp at *; omega)), (by first | omega | (simp <;> omega)), (by first | assumption | rfl), (by first | omega | (simp <;> omega)), (by first | assumption | omega | (simp at *; omega))⟩
          ·
           have bA := aY
           try simp only [BS] at bA
           exact av _ _ ⟨0, ([] : List Int), (⟨am.n⟩ : DigT), none, 0, _, (Fz.le_refl _), U, (SR.nil : SR cm (.slice none 0 0) ([] : List Int)), (agC rfl (agC rfl agN)), (by exact immT (by omega)), (by first | assumption | omega | (simp at *; omega)), (by first | omega | (simp <;> omega)), (by first | assumption | rfl), (by first | omega | (simp <;> omega)), (by first | assumption | omega | (simp at *; omega))⟩
     ·
      rintro el d2 ⟨jq, asl, bj, E, I, dH, cC, b4, aQ, bY, hjq, rjq, cp, aN, hck, dB⟩
      refine wk_canon _ bY (fun _ => ?_)
      clear bY
      refine wk_foc 3 rfl ?_
      refine wk_region ?_
      refine wro 1 0 [(0, .o (.agg ⟨[(.int .i64 z), (.int .i64 ja), (.int .i64 jb), (.int .i64 jc), (.int .i64 jq), (.slice E asl.length I)]⟩))] 119 119 [] [(119, (.agg ⟨[(.int .i64 z), (.int .i64 ja), (.int .i64 jb), (.int .i64 jc), (.int .i64 jq), (.slice E asl.length I)]⟩))] (vA (qn 52 0 6 (HS.hc b4 (i := 4) rfl) rfl rfl rfl rfl) trivial) (by kernel_rfl) rfl fun _ => ?_
      refine wo_rk (rs_rec (q := 1) b4 rfl rfl rfl rfl rfl rfl rfl rfl rfl) rfl ?_
      rintro _ ef _ ⟨aM, _⟩
      have aM : HS _ _ _ [_, [(b3, .cells [(.int .i64 z), (.int .i64 ja), (.int .i64 jb), (.int .i64 jc), (.int .i64 jq), (.slice E asl.length I)] none false)], [(J, .cells [(.int .i64 bj.n)] none false)], _, [(A, .cells [(.int .i64 z), (.int .i64 ja), (.int .i64 jb), (.int .i64 jc), (.int .i64 jq), (.slice E asl.length I)] none false)], _] _ := aM
      refine wo_end 1 rfl ?_
      refine wk_ret ⟨.inr rfl, _, (rC rfl (ldVN rfl rfl (HS.hc aM (i := 1) rfl) rfl) rN), (⟨(⟨z, ja, jb, jc, jq⟩ : InsT), asl⟩ : VInT), E, I, _, (Fz.le_trans (Fz.le_trans (Fz.le_trans (Fz.le_trans (Fz.le_trans (Fz.le_trans (a1) a2) bN) bO) bP) bQ) cC), (HS.forget aM), rfl, (by first | omega | (dsimp only; omega)), (by first | omega | (dsimp only; omega)), (by first | omega | (dsimp only; omega)), (by first | omega | (dsimp only; omega)), (by first | omega | (dsimp only; omega)), aQ, (by exact vin_mk ho.2 cp.1 cp.2 aN hja hjb hjc hjq), (by exact decide_eq_true hck)⟩
end Go.Proofs.YtknafdcgpaejlaaDoor.m4
