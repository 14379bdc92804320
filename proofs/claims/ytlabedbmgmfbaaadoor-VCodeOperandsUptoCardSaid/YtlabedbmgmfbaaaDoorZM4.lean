/-
  The generator of virtual code, function by function, each by a symbolic run: what it makes is valid. No condition but that the table lies as laid.
-/
import Derived.Test.YtlabedbmgmfbaaaDoorZM3
noncomputable section
namespace Go.Proofs.YtlabedbmgmfbaaaDoor.m4
open Go.R
set_option maxRecDepth 10000
set_option linter.unusedVariables false
theorem ql {H : Heap} {b o : Nat} {cs : List Value} {w : Value} (t : TypeId) (i : Nat) (hc : HC H.get b o cs) (ha : aggOf Tryd.prog t = some false) (hv : cs[i]? = some w) : LDv Tryd.prog H t (.pointer (some ⟨b, o + i, none⟩)) w := ld1 hc ha hv
theorem qn {H : Heap} {b o : Nat} {cs l : List Value} (t : TypeId) (i n : Nat) (hc : HC H.get b o cs) (ha : aggOf Tryd.prog t = some true) (hs : szOf Tryd.prog t = some n) (hn : Nat.ble (i + n) cs.length = true) (hl : takeL (dropL cs i) n = l) : LDv Tryd.prog H t (.pointer (some ⟨b, o + i, none⟩)) (.agg ⟨l⟩) := ldN hc ha hs hn hl
open m1 m2 m3
theorem wr64 (n : Int) : in64 (IntKind.i64.wrap n) := w64_in n
theorem td64 (n : Int) {m : Int} (h : 0 < m) : in64 (Int.tdiv (IntKind.i64.wrap n) m) := vq (wr64 n) (by omega)
theorem opOK_t {p : Prop} [Decidable p] {n r : Int} (h : p) (hn : 0 ≤ n ∧ n < r) : opOK (decide p) n r = true := by rw [decide_eq_true h]; exact regOK_iff.2 hn
theorem opOK_f {p : Prop} [Decidable p] {n r : Int} (h : ¬ p) (hn : n = 0) : opOK (decide p) n r = true := by rw [decide_eq_false h, hn]; rfl
def opG (op : Int) : Prop := (op = 3 ∨ op = 6 ∨ (9 ≤ op ∧ op ≤ 13) ∨ (15 ≤ op ∧ op ≤ 35)) ∧ alV op = true
theorem ops_al {op : Int} (h : 15 ≤ op ∧ op ≤ 32) : opG op := ⟨by omega, decide_eq_true (by omega)⟩
theorem lit12 {k : Nat} (h : k < 12) : opG (([3, 6, 9, 10, 11, 12, 13, 33, 34, 35, 10, 9] : List Int).getD k 0) := by
  have : ∀ k : Fin 12, ((([3, 6, 9, 10, 11, 12, 13, 33, 34, 35, 10, 9] : List Int).getD k.val 0) = 3 ∨ (([3, 6, 9, 10, 11, 12, 13, 33, 34, 35, 10, 9] : List Int).getD k.val 0) = 6 ∨ (9 ≤ (([3, 6, 9, 10, 11, 12, 13, 33, 34, 35, 10, 9] : List Int).getD k.val 0) ∧ (([3, 6, 9, 10, 11, 12, 13, 33, 34, 35, 10, 9] : List Int).getD k.val 0) ≤ 13) ∨ (15 ≤ (([3, 6, 9, 10, 11, 12, 13, 33, 34, 35, 10, 9] : List Int).getD k.val 0) ∧ (([3, 6, 9, 10, 11, 12, 13, 33, 34, 35, 10, 9] : List Int).getD k.val 0) ≤ 35)) ∧ alV (([3, 6, 9, 10, 11, 12, 13, 33, 34, 35, 10, 9] : List Int).getD k.val 0) = true := by decide
  exact this ⟨k, h⟩
theorem immT {p op n : Int} (h : op = 13 ∨ op = 33 ∧ -4194304 ≤ n ∧ n < 4194304 ∨ op = 6 ∧ 0 ≤ n ∧ n < 8 ∨ (op = 34 ∨ op = 35) ∧ 0 ≤ n ∧ n < 4 ∨ (op ≠ 13 ∧ op ≠ 33 ∧ op ≠ 6 ∧ op ≠ 34 ∧ op ≠ 35 ∧ op ≠ 38) ∧ n = 0) : immV p op n = true := by
  unfold immV
  (repeat' split) <;> first | rfl | (apply decide_eq_true; omega) | (exfalso; omega)
theorem all_app {p : Int → Bool} {l : List Int} {x : Int} (h : l.all p = true) (hx : p x = true) : (l ++ [x]).all p = true := by rw [List.all_append, h]; simp [hx]
theorem vin_mk {params regs op a b c n : Int} {l : List Int} (h1 : alV op = true) (h2 : op = 6 ∨ l.length = 0) (h3 : l.length ≤ 6) (h4 : l.all (regOK regs) = true) (h5 : opOK (decide (vformV op ≠ 1)) a regs = true) (h6 : opOK (decide (vformV op = 3 ∨ vformV op = 4 ∨ vformV op = 7)) b regs = true) (h7 : opOK (decide (vformV op = 4)) c regs = true) (h8 : immV params op n = true) : vinV params regs ⟨⟨op, a, b, c, n⟩, l⟩ = true := by
  unfold vinV
  simp only [h1, decide_eq_true h2, decide_eq_true h3, h4, h5, h6, h7, h8, Bool.and_self]

def ckI (v : VInT) : Bool := decide ((v.i.op = 6 → (v.i.n = 0 ∧ v.args.length = 2 ∨ v.i.n = 1 ∧ v.args.length = 1)) ∧ (v.i.op = 34 ∨ v.i.op = 35 → v.i.n < 2))

theorem next_c (ex : FuncId) {b_d : Nat} (d : DigT) (m : Int) {F : Fz} {H : Heap} {R : List Fp} (hs : HS (.of H [b_d]) F H [[(b_d, .cells [(.int .i64 d.n)] none false)]] R) (hd_0 : in64 d.n) (hm : in64 m) (hT : TB 37 tabC F) (hm : 0 < m) : C Tryd.prog 1 (KT 60 ex 37 tabC) 49 [(.pointer (some ⟨b_d, 0, none⟩)), (.int .i64 m)] H fun v H' => ∃ (r : Int) (d' : DigT) (F' : Fz), Fz.le F F' ∧ HS (.of H [b_d]) F' H' [[(b_d, .cells [(.int .i64 d'.n)] none false)]] R ∧ v = .int .i64 r ∧ in64 d'.n ∧ (0 ≤ r ∧ r < m) := by
  refine c_enter Tryd.func49 rfl rfl ?_
  refine wk_foc 1 rfl ?_
  refine wr 2 [] 4 4 [] [(4, (.int .i64 0))] trivial (by kernel_rfl) rfl fun gg1 => ?_
  have fq2 := pick_imp d.n m
  refine wr 2 [(3, .o (.int .i64 d.n)), (5, .o (.int .i64 (pickV d.n m)))] 6 11 [5] [(5, (.int .i64 (pickV d.n m)))] (vA (ql 3 0 (HS.hc hs (i := 0) rfl) rfl rfl) (vA (m1.pick_c_q ex d.n m H (by first | omega | exact wr64 _ | exact td64 _ (by omega))) trivial)) (by kernel_rfl) rfl fun gg3 => ?_
  refine wk_region ?_
  refine wro 11 0 [(4, .o (.int .i64 d.n)), (6, .w)] 12 22 [] [(20, (.int .i64 (Int.tdiv (IntKind.i64.wrap (d.n - (pickV d.n m))) m))), (22, (.pointer (some ⟨b_d, 0, none⟩)))] (vA (ql 3 0 (HS.hc hs (i := 0) rfl) rfl rfl) (vA (vA (show m ≠ 0 from by first | omega | exact wr64 _ | exact td64 _ (by omega)) (vq (a := IntKind.i64.wrap (d.n - (pickV d.n m))) (b := m) (by first | omega | exact wr64 _ | exact td64 _ (by omega)) (by first | omega | exact wr64 _ | exact td64 _ (by omega)))) trivial)) (by kernel_rfl) rfl fun gg4 => ?_
  refine wo_rk (rs_rec (q := 0) hs rfl rfl rfl rfl rfl rfl rfl rfl rfl) rfl ?_
  rintro _ H5 _ ⟨hs5, _⟩
  have hs5 : HS _ _ _ [[(b_d, .cells [(.int .i64 (Int.tdiv (IntKind.i64.wrap (d.n - (pickV d.n m))) m))] none false)]] _ := hs5
  refine wo_end 2 rfl ?_
  refine wr 1 [] 4 4 [23] [(4, (.int .i64 (pickV d.n m)))] trivial (by kernel_rfl) rfl fun gg6 => ?_
  refine wk_ret ⟨.inr rfl, _, rfl, pickV d.n m, (⟨Int.tdiv (IntKind.i64.wrap (d.n - (pickV d.n m))) m⟩ : DigT), _, (Fz.le_refl _), (HS.first hs5), rfl, (by first | omega | exact wr64 _ | exact td64 _ (by omega)), (by first | assumption | omega | simp_all)⟩

theorem word_c (ex : FuncId) (n : Int) (raw : Int) {F : Fz} {H : Heap} {R : List Fp} (hs : HS (.of H []) F H [] R) (hn : in64 n) (hraw : in64 raw) (hT : TB 37 tabC F) : C Tryd.prog 1 (KT 60 ex 37 tabC) 50 [(.int .i64 n), (.int .i64 raw)] H fun v H' => ∃ (r : Int) (F' : Fz), Fz.le F F' ∧ HS (.of H []) F' H' [] R ∧ v = .int .i64 r ∧ (in64 r) := by
  refine c_enter Tryd.func50 rfl rfl ?_
  refine wk_foc 1 rfl ?_
  refine wr 2 [] 4 4 [] [(4, (.int .i64 0))] trivial (by kernel_rfl) rfl fun gg1 => ?_
  refine wk_region ?_
  refine wo_rs (rs_lit (α := Int) (ps := [(0, (.int .i64 0)), (1, (.int .i64 1)), (2, (.int .i64 (-1))), (3, (.int .i64 2)), (4, (.int .i64 (-9223372036854775808))), (5, (.int .i64 9223372036854775807)), (6, (.int .i64 4294967296)), (7, (.int .i64 (-2147483648))), (8, (.int .i64 63)), (9, (.int .i64 64))]) (cells := [(.int .i64 0), (.int .i64 1), (.int .i64 (-1)), (.int .i64 2), (.int .i64 (-9223372036854775808)), (.int .i64 9223372036854775807), (.int .i64 4294967296), (.int .i64 (-2147483648)), (.int .i64 63), (.int .i64 64)]) ([0, 1, (-1), 2, (-9223372036854775808), 9223372036854775807, 4294967296, (-2147483648), 63, 64] : List Int) hs rfl rfl rfl (by kernel_rfl) ⟨[(.int .i64 0)], [(.int .i64 1), (.int .i64 (-1)), (.int .i64 2), (.int .i64 (-9223372036854775808)), (.int .i64 9223372036854775807), (.int .i64 4294967296), (.int .i64 (-2147483648)), (.int .i64 63), (.int .i64 64)], rfl, ⟨rfl, by omega⟩, ⟨[(.int .i64 1)], [(.int .i64 (-1)), (.int .i64 2), (.int .i64 (-9223372036854775808)), (.int .i64 9223372036854775807), (.int .i64 4294967296), (.int .i64 (-2147483648)), (.int .i64 63), (.int .i64 64)], rfl, ⟨rfl, by omega⟩, ⟨[(.int .i64 (-1))], [(.int .i64 2), (.int .i64 (-9223372036854775808)), (.int .i64 9223372036854775807), (.int .i64 4294967296), (.int .i64 (-2147483648)), (.int .i64 63), (.int .i64 64)], rfl, ⟨rfl, by omega⟩, ⟨[(.int .i64 2)], [(.int .i64 (-9223372036854775808)), (.int .i64 9223372036854775807), (.int .i64 4294967296), (.int .i64 (-2147483648)), (.int .i64 63), (.int .i64 64)], rfl, ⟨rfl, by omega⟩, ⟨[(.int .i64 (-9223372036854775808))], [(.int .i64 9223372036854775807), (.int .i64 4294967296), (.int .i64 (-2147483648)), (.int .i64 63), (.int .i64 64)], rfl, ⟨rfl, by omega⟩, ⟨[(.int .i64 9223372036854775807)], [(.int .i64 4294967296), (.int .i64 (-2147483648)), (.int .i64 63), (.int .i64 64)], rfl, ⟨rfl, by omega⟩, ⟨[(.int .i64 4294967296)], [(.int .i64 (-2147483648)), (.int .i64 63), (.int .i64 64)], rfl, ⟨rfl, by omega⟩, ⟨[(.int .i64 (-2147483648))], [(.int .i64 63), (.int .i64 64)], rfl, ⟨rfl, by omega⟩, ⟨[(.int .i64 63)], [(.int .i64 64)], rfl, ⟨rfl, by omega⟩, ⟨[(.int .i64 64)], [], rfl, ⟨rfl, by omega⟩, rfl⟩⟩⟩⟩⟩⟩⟩⟩⟩⟩ rfl) rfl rfl ?_
  rintro _ H3 p2 ⟨a2, k2, rfl, ho2, hs3, _⟩
  have hs3 : HS _ _ _ [p2] _ := hs3
  refine wa (.slice a2 ([0, 1, (-1), 2, (-9223372036854775808), 9223372036854775807, 4294967296, (-2147483648), 63, 64] : List Int).length k2) rfl rfl rfl ?_
  refine wo_end 2 rfl ?_
  have fq4 := pick_imp n (24 : Int)
  refine wr 4 [(1, .o (.int .i64 (pickV n (24 : Int))))] 8 9 [6] [(6, (.int .i64 (pickV n (24 : Int))))] (vA (m1.pick_c_q ex n (24) H3 (by omega)) trivial) (by kernel_rfl) rfl fun gg5 => ?_
  refine wr 1 [] 10 12 [] [(10, (.bool (decide (pickV n (24 : Int) < 10))))] trivial (by kernel_rfl) rfl fun gg6 => ?_
  refine wk_if 1 1 (v := (decide (pickV n (24 : Int) < 10))) rfl rfl rfl rfl (fun c7b => ?_) (fun c7b => ?_)
  · have c7 := c7b
    try simp only [BS] at c7
    obtain ⟨cf8, hv8⟩ := Sv.view (OS.sv ho2 hs3 (i := 0) rfl)
    have g9 := fI (hv8 ((pickV n (24 : Int)).toNat))
    refine wr 1 [(3, .o (.int .i64 (([0, 1, (-1), 2, (-9223372036854775808), 9223372036854775807, 4294967296, (-2147483648), 63, 64] : List Int).getD ((pickV n (24 : Int)).toNat) 0)))] 13 16 [4] [(4, (.int .i64 (([0, 1, (-1), 2, (-9223372036854775808), 9223372036854775807, 4294967296, (-2147483648), 63, 64] : List Int).getD ((pickV n (24 : Int)).toNat) 0)))] (vA (Sv.ix (j := pickV n (24 : Int)) (OS.sv ho2 hs3 (i := 0) rfl) (by omega) (show pickV n (24 : Int) < (10 : Int) from by omega)) (vA (ql 2 0 (vI (hv8 ((pickV n (24 : Int)).toNat)) (show (pickV n (24 : Int)).toNat < 10 from by omega)) rfl rfl) trivial)) (by kernel_rfl) rfl fun gg10 => ?_
    refine wk_ret ⟨.inr rfl, _, rfl, (([0, 1, (-1), 2, (-9223372036854775808), 9223372036854775807, 4294967296, (-2147483648), 63, 64] : List Int).getD ((pickV n (24 : Int)).toNat) 0), _, (Fz.le_refl _), (HS.forget hs3), rfl, (by omega)⟩
  · have c7 := c7b
    try simp only [BS] at c7
    refine wr 1 [] 17 19 [] [(17, (.bool (decide (pickV n (24 : Int) < 22))))] trivial (by kernel_rfl) rfl fun gg11 => ?_
    refine wk_if 1 3 (v := (decide (pickV n (24 : Int) < 22))) rfl rfl rfl rfl (fun c12b => ?_) (fun c12b => ?_)
    · have c12 := c12b
      try simp only [BS] at c12
      have tq13 : in64 n → in64 (Int.tdiv n 24) := fun h => vq h (by decide)
      have fq14 := pick_imp (Int.tdiv n 24) (17 : Int)
      refine wr 1 [(2, .o (.int .i64 (pickV (Int.tdiv n 24) (17 : Int))))] 20 23 [4] [(4, (.int .i64 ((pickV (Int.tdiv n 24) (17 : Int)) - 6)))] (vA (vA (show (24 : Int) ≠ 0 from by decide) (vq (a := n) (b := 24) (by omega) (by decide))) (vA (m1.pick_c_q ex (Int.tdiv n 24) (17) H3 (by omega)) (vA (vi (n := (pickV (Int.tdiv n 24) (17 : Int)) - 6) (by omega)) trivial))) (by kernel_rfl) rfl fun gg15 => ?_
      refine wk_ret ⟨.inr rfl, _, rfl, (pickV (Int.tdiv n 24) (17 : Int)) - 6, _, (Fz.le_refl _), (HS.forget hs3), rfl, (by omega)⟩
    · have c12 := c12b
      try simp only [BS] at c12
      refine wr 1 [] 4 4 [24] [(4, (.int .i64 raw))] trivial (by kernel_rfl) rfl fun gg16 => ?_
      refine wk_ret ⟨.inr rfl, _, rfl, raw, _, (Fz.le_refl _), (HS.forget hs3), rfl, (by omega)⟩

set_option maxHeartbeats 1000000 in
theorem vi_c (ex : FuncId) (n : Int) {ac_2 : Option Addr} {kc_2 : Nat} (c : VFnT) {F : Fz} {H : Heap} {R : List Fp} (hs : HS (.of H []) F H [] R) (hn : in64 n) (hc_0 : in64 c.params) (hc_1 : in64 c.regs) (hT : TB 37 tabC F) (hr : 1 ≤ c.regs ∧ c.regs ≤ 3000) : C Tryd.prog 1 (KT 60 ex 37 tabC) 44 [(.int .i64 n), (.agg ⟨[(.int .i64 c.params), (.int .i64 c.regs), (.slice ac_2 c.blocks.length kc_2)]⟩)] H fun v H' => ∃ (x : VInT) (ax_5 : Option Addr) (kx_5 : Nat) (F' : Fz), Fz.le F F' ∧ HS (.of H []) F' H' [] R ∧ v = .agg ⟨[.int .i64 x.i.op, .int .i64 x.i.a, .int .i64 x.i.b, .int .i64 x.i.c, .int .i64 x.i.n, .slice ax_5 x.args.length kx_5]⟩ ∧ in64 x.i.op ∧ in64 x.i.a ∧ in64 x.i.b ∧ in64 x.i.c ∧ in64 x.i.n ∧ SR F' (.slice ax_5 x.args.length kx_5) x.args ∧ (vinV c.params c.regs x = true) ∧ (ckI x = true) := by
  refine c_enter Tryd.func44 rfl rfl ?_
  refine wk_foc 1 rfl ?_
  refine wk_region ?_
  refine wo_rs (rs_box hs rfl rfl) rfl rfl ?_
  rintro _ H2 _ ⟨b1, rfl, hs2, _⟩
  have hs2 : HS _ _ _ [[(b1, .cells [(.int .i64 c.params), (.int .i64 c.regs), (.slice ac_2 c.blocks.length kc_2)] none false)]] _ := hs2
  refine wo_rs (rs_new hs2 rfl) rfl rfl ?_
  rintro _ H4 _ ⟨b3, rfl, hs4, _⟩
  have hs4 : HS _ _ _ [_, [(b3, .cells [(.int .i64 0), (.int .i64 0), (.int .i64 0), (.int .i64 0), (.int .i64 0), (.slice none 0 0)] none false)]] _ := hs4
  refine wo_end 2 rfl ?_
  refine wk_region ?_
  refine wro 2 0 [] 14 15 [] [(15, (.agg ⟨[(.int .i64 n)]⟩))] trivial (by kernel_rfl) rfl fun gg5 => ?_
  refine wo_rs (rs_box hs4 rfl rfl) rfl rfl ?_
  rintro _ H7 _ ⟨b6, rfl, hs7, _⟩
  have hs7 : HS _ _ _ [_, _, [(b6, .cells [(.int .i64 n)] none false)]] _ := hs7
  refine wa (.pointer (some ⟨b6, 0, none⟩)) rfl rfl rfl ?_
  refine wo_end 2 rfl ?_
  refine wk_region ?_
  refine wo_rs (rs_lit (α := Int) (ps := [(0, (.int .i64 3)), (1, (.int .i64 6)), (2, (.int .i64 9)), (3, (.int .i64 10)), (4, (.int .i64 11)), (5, (.int .i64 12)), (6, (.int .i64 13)), (7, (.int .i64 33)), (8, (.int .i64 34)), (9, (.int .i64 35)), (10, (.int .i64 10)), (11, (.int .i64 9))]) (cells := [(.int .i64 3), (.int .i64 6), (.int .i64 9), (.int .i64 10), (.int .i64 11), (.int .i64 12), (.int .i64 13), (.int .i64 33), (.int .i64 34), (.int .i64 35), (.int .i64 10), (.int .i64 9)]) ([3, 6, 9, 10, 11, 12, 13, 33, 34, 35, 10, 9] : List Int) hs7 rfl rfl rfl (by kernel_rfl) ⟨[(.int .i64 3)], [(.int .i64 6), (.int .i64 9), (.int .i64 10), (.int .i64 11), (.int .i64 12), (.int .i64 13), (.int .i64 33), (.int .i64 34), (.int .i64 35), (.int .i64 10), (.int .i64 9)], rfl, ⟨rfl, by first | omega | (dsimp only; omega)⟩, ⟨[(.int .i64 6)], [(.int .i64 9), (.int .i64 10), (.int .i64 11), (.int .i64 12), (.int .i64 13), (.int .i64 33), (.int .i64 34), (.int .i64 35), (.int .i64 10), (.int .i64 9)], rfl, ⟨rfl, by first | omega | (dsimp only; omega)⟩, ⟨[(.int .i64 9)], [(.int .i64 10), (.int .i64 11), (.int .i64 12), (.int .i64 13), (.int .i64 33), (.int .i64 34), (.int .i64 35), (.int .i64 10), (.int .i64 9)], rfl, ⟨rfl, by first | omega | (dsimp only; omega)⟩, ⟨[(.int .i64 10)], [(.int .i64 11), (.int .i64 12), (.int .i64 13), (.int .i64 33), (.int .i64 34), (.int .i64 35), (.int .i64 10), (.int .i64 9)], rfl, ⟨rfl, by first | omega | (dsimp only; omega)⟩, ⟨[(.int .i64 11)], [(.int .i64 12), (.int .i64 13), (.int .i64 33), (.int .i64 34), (.int .i64 35), (.int .i64 10), (.int .i64 9)], rfl, ⟨rfl, by first | omega | (dsimp only; omega)⟩, ⟨[(.int .i64 12)], [(.int .i64 13), (.int .i64 33), (.int .i64 34), (.int .i64 35), (.int .i64 10), (.int .i64 9)], rfl, ⟨rfl, by first | omega | (dsimp only; omega)⟩, ⟨[(.int .i64 13)], [(.int .i64 33), (.int .i64 34), (.int .i64 35), (.int .i64 10), (.int .i64 9)], rfl, ⟨rfl, by first | omega | (dsimp only; omega)⟩, ⟨[(.int .i64 33)], [(.int .i64 34), (.int .i64 35), (.int .i64 10), (.int .i64 9)], rfl, ⟨rfl, by first | omega | (dsimp only; omega)⟩, ⟨[(.int .i64 34)], [(.int .i64 35), (.int .i64 10), (.int .i64 9)], rfl, ⟨rfl, by first | omega | (dsimp only; omega)⟩, ⟨[(.int .i64 35)], [(.int .i64 10), (.int .i64 9)], rfl, ⟨rfl, by first | omega | (dsimp only; omega)⟩, ⟨[(.int .i64 10)], [(.int .i64 9)], rfl, ⟨rfl, by first | omega | (dsimp only; omega)⟩, ⟨[(.int .i64 9)], [], rfl, ⟨rfl, by first | omega | (dsimp only; omega)⟩, rfl⟩⟩⟩⟩⟩⟩⟩⟩⟩⟩⟩⟩ rfl) rfl rfl ?_
  rintro _ H9 p8 ⟨a8, k8, rfl, ho8, hs9, _⟩
  have hs9 : HS _ _ _ [_, _, _, p8] _ := hs9
  refine wa (.slice a8 ([3, 6, 9, 10, 11, 12, 13, 33, 34, 35, 10, 9] : List Int).length k8) rfl rfl rfl ?_
  refine wo_end 2 rfl ?_
  refine wk_region ?_
  refine wm (.pointer (some ⟨b6, 0, none⟩)) rfl rfl rfl ?_
  refine wo_call (ap_call rfl rfl rfl) rfl rfl (next_c ex (⟨n⟩ : DigT) (18) (HS.callOwn hs9 (i := 2) rfl) (by first | omega | (dsimp only; omega)) (by first | omega | (dsimp only; omega)) hT (by first | omega | (dsimp only; omega))) ?_
  rintro _ H10 ⟨r10, dm10, F10, hF10, hs10, rfl, gm10_0, h10⟩
  replace hs10 := HS.backOwn hs9 (i := 2) rfl rfl (fun _ hb => hb) hs10
  have hs10 : HS _ _ _ [_, _, [(b6, .cells [(.int .i64 dm10.n)] none false)], _] _ := hs10
  replace hT := hT.mono hF10
  replace ho8 := ho8.mono hF10
  refine wro 2 2 [] 20 20 [7] [(7, (.int .i64 (15 + r10)))] (vA (vi (n := 15 + r10) (by first | omega | (dsimp only; omega))) trivial) (by kernel_rfl) rfl fun gg11 => ?_
  refine wo_end 3 rfl ?_
  refine wk_region ?_
  refine wm (.pointer (some ⟨b6, 0, none⟩)) rfl rfl rfl ?_
  refine wo_call (ap_call rfl rfl rfl) rfl rfl (next_c ex (⟨dm10.n⟩ : DigT) (24) (HS.callOwn hs10 (i := 2) rfl) (by first | omega | (dsimp only; omega)) (by first | omega | (dsimp only; omega)) hT (by first | omega | (dsimp only; omega))) ?_
  rintro _ H12 ⟨r12, dm12, F12, hF12, hs12, rfl, gm12_0, h12⟩
  replace hs12 := HS.backOwn hs10 (i := 2) rfl rfl (fun _ hb => hb) hs12
  have hs12 : HS _ _ _ [_, _, [(b6, .cells [(.int .i64 dm12.n)] none false)], _] _ := hs12
  replace hT := hT.mono hF12
  replace ho8 := ho8.mono hF12
  refine wa (.int .i64 r12) rfl rfl rfl ?_
  refine wo_end 2 rfl ?_
  refine wr 1 [] 23 26 [] [(26, (.bool (decide (r12 < 12))))] trivial (by kernel_rfl) rfl fun gg13 => ?_
  refine wk_join (fun f H' => ∃ (op1 : Int), H' = H12 ∧ agrees f [(0, (.int .i64 n)), (3, (.pointer (some ⟨b1, 0, none⟩))), (4, (.pointer (some ⟨b3, 0, none⟩))), (5, (.pointer (some ⟨b6, 0, none⟩))), (7, (.int .i64 op1))] ∧ (opG op1)) (fun jn14 => ?_) ?_
  · skip
    refine wk_if 0 0 (v := (decide (r12 < 12))) rfl rfl rfl rfl (fun c15b => ?_) (fun c15b => ?_)
    · have c15 := c15b
      try simp only [BS] at c15
      obtain ⟨cf16, hv16⟩ := Sv.view (OS.sv ho8 hs12 (i := 3) rfl)
      have g17 := fI (hv16 r12.toNat)
      refine wr 0 [(3, .o (.int .i64 (([3, 6, 9, 10, 11, 12, 13, 33, 34, 35, 10, 9] : List Int).getD r12.toNat 0)))] 27 30 [7] [(7, (.int .i64 (([3, 6, 9, 10, 11, 12, 13, 33, 34, 35, 10, 9] : List Int).getD r12.toNat 0)))] (vA (Sv.ix (j := r12) (OS.sv ho8 hs12 (i := 3) rfl) (by first | omega | (dsimp only; omega)) (show r12 < (12 : Int) from by first | omega | (dsimp only; omega))) (vA (ql 3 0 (vI (hv16 r12.toNat) (show r12.toNat < 12 from by first | omega | (dsimp only; omega))) rfl rfl) trivial)) (by kernel_rfl) rfl fun gg18 => ?_
      exact jn14 _ _ ⟨(([3, 6, 9, 10, 11, 12, 13, 33, 34, 35, 10, 9] : List Int).getD r12.toNat 0), rfl, (agC rfl (agC rfl (agC rfl (agC rfl (agC rfl agN))))), (by first | exact lit12 (by omega) | exact ops_al (by omega))⟩
    · have c15 := c15b
      try simp only [BS] at c15
      exact jn14 _ _ ⟨15 + r10, rfl, (agC rfl (agC rfl (agC rfl (agC rfl (agC rfl agN))))), (by first | exact lit12 (by omega) | exact ops_al (by omega))⟩
  · skip
    rintro f14 H12 ⟨op1, rfl, hf14, ho⟩
    refine wk_canon _ hf14 (fun gg14 => ?_)
    clear hf14
    have hf := vform_cases ho.2
    have hvf : vformV op1 = (infV op1).form := if_neg (by have := ho.1; omega)
    have ho1 := ho.1
    refine wk_foc 2 rfl ?_
    refine wk_region ?_
    refine wro 3 0 [] 31 33 [] [(33, (.agg ⟨[(.int .i64 op1), (.int .i64 0), (.int .i64 0), (.int .i64 0), (.int .i64 0), (.slice none 0 0)]⟩))] trivial (by kernel_rfl) rfl fun gg19 => ?_
    refine wo_rs (rs_new hs12 rfl) rfl rfl ?_
    rintro _ H21 _ ⟨b20, rfl, hs21, _⟩
    have hs21 : HS _ _ _ [_, _, _, _, [(b20, .cells [(.int .i64 0), (.int .i64 0), (.int .i64 0), (.int .i64 0), (.int .i64 0), (.slice none 0 0)] none false)]] _ := hs21
    refine wo_rk (rs_rec (q := 4) hs21 rfl rfl rfl rfl rfl rfl rfl rfl rfl) rfl ?_
    rintro _ H22 _ ⟨hs22, _⟩
    have hs22 : HS _ _ _ [_, _, _, _, [(b20, .cells [(.int .i64 op1), (.int .i64 0), (.int .i64 0), (.int .i64 0), (.int .i64 0), (.slice none 0 0)] none false)]] _ := hs22
    refine wo_end 2 rfl ?_
    refine wk_region ?_
    refine wm (.int .i64 op1) rfl rfl rfl ?_
    refine wo_call (ap_call rfl rfl rfl) rfl rfl (m1.rInfo_c ex op1 (HS.call hs22) (by first | omega | (dsimp only; omega)) hT) ?_
    rintro _ H23 ⟨x23, o23, F23, hF23, hs23, rfl, hgx23_1, hgx23_6, rfl, rfl⟩
    replace hs23 := HS.back hs22 rfl hs23
    have hs23 : HS _ _ _ [_, _, _, _, _] _ := hs23
    replace hT := hT.mono hF23
    refine wro 3 2 [] 37 38 [34] [(37, (.agg ⟨[(.string ⟨⟨(infV op1).name.b⟩⟩), (.int .i64 ((infV op1).form)), (.bool ((infV op1).ra)), (.bool ((infV op1).wa)), (.bool ((infV op1).rb)), (.bool ((infV op1).mt)), (.int .i64 ((infV op1).words))]⟩)), (38, (.bool (infO op1)))] trivial (by kernel_rfl) rfl fun gg24 => ?_
    refine wo_rs (rs_new hs23 rfl) rfl rfl ?_
    rintro _ H26 _ ⟨b25, rfl, hs26, _⟩
    have hs26 : HS _ _ _ [_, _, _, _, _, [(b25, .cells [(.string ⟨⟨[]⟩⟩), (.int .i64 0), (.bool false), (.bool false), (.bool false), (.bool false), (.int .i64 0)] none false)]] _ := hs26
    refine wo_rk (rs_rec (q := 5) hs26 rfl rfl rfl rfl rfl rfl rfl rfl rfl) rfl ?_
    rintro _ H27 _ ⟨hs27, _⟩
    have hs27 : HS _ _ _ [_, _, _, _, _, [(b25, .cells [(.string ⟨⟨(infV op1).name.b⟩⟩), (.int .i64 ((infV op1).form)), (.bool ((infV op1).ra)), (.bool ((infV op1).wa)), (.bool ((infV op1).rb)), (.bool ((infV op1).mt)), (.int .i64 ((infV op1).words))] none false)]] _ := hs27
    refine wa (.bool (infO op1)) rfl rfl rfl ?_
    refine wo_end 2 rfl ?_
    refine wr 3 [(1, .o (.int .i64 ((infV op1).form)))] 39 40 [12] [(12, (.int .i64 ((infV op1).form)))] (vA (ql 3 1 (HS.hc hs27 (i := 5) rfl) rfl rfl) trivial) (by kernel_rfl) rfl fun gg28 => ?_
    refine wr 1 [] 41 42 [] [(42, (.bool ((infV op1).form != 1)))] trivial (by kernel_rfl) rfl fun gg29 => ?_
    refine wk_join (fun f H' => ∃ (ja : Int) (jd1 : DigT) (F' : Fz), Fz.le F23 F' ∧ HS (Base.of H []) F' H' [[(b1, .cells [(.int .i64 c.params), (.int .i64 c.regs), (.slice ac_2 c.blocks.length kc_2)] none false)], [(b3, .cells [(.int .i64 0), (.int .i64 0), (.int .i64 0), (.int .i64 0), (.int .i64 0), (.slice none 0 0)] none false)], [(b6, .cells [(.int .i64 jd1.n)] none false)], p8, [(b20, .cells [(.int .i64 op1), (.int .i64 ja), (.int .i64 0), (.int .i64 0), (.int .i64 0), (.slice none 0 0)] none false)], [(b25, .cells [(.string ⟨⟨(infV op1).name.b⟩⟩), (.int .i64 ((infV op1).form)), (.bool ((infV op1).ra)), (.bool ((infV op1).wa)), (.bool ((infV op1).rb)), (.bool ((infV op1).mt)), (.int .i64 ((infV op1).words))] none false)]] R ∧ agrees f [(0, (.int .i64 n)), (3, (.pointer (some ⟨b1, 0, none⟩))), (4, (.pointer (some ⟨b3, 0, none⟩))), (5, (.pointer (some ⟨b6, 0, none⟩))), (7, (.int .i64 op1)), (9, (.pointer (some ⟨b20, 0, none⟩))), (12, (.int .i64 ((infV op1).form)))] ∧ (opOK (decide (vformV op1 ≠ 1)) ja c.regs = true) ∧ (in64 ja) ∧ (in64 jd1.n)) (fun jn30 => ?_) ?_
    · skip
      refine wk_if 0 0 (v := ((infV op1).form != 1)) rfl rfl rfl rfl (fun c31b => ?_) (fun c31b => ?_)
      · have c31 := c31b
        try simp only [BS] at c31
        refine wk_region ?_
        refine wro 3 0 [(2, .o (.int .i64 c.regs))] 43 45 [] [(43, (.pointer (some ⟨b6, 0, none⟩))), (45, (.int .i64 c.regs))] (vA (ql 3 1 (HS.hc hs27 (i := 0) rfl) rfl rfl) trivial) (by kernel_rfl) rfl fun gg32 => ?_
        refine wo_call (ap_call rfl rfl rfl) rfl rfl (next_c ex (⟨dm12.n⟩ : DigT) c.regs (HS.callOwn hs27 (i := 2) rfl) (by first | omega | (dsimp only; omega)) (by first | omega | (dsimp only; omega)) hT (by first | omega | (dsimp only; omega))) ?_
        rintro _ H33 ⟨r33, dm33, F33, hF33, hs33, rfl, gm33_0, h33⟩
        replace hs33 := HS.backOwn hs27 (i := 2) rfl rfl (fun _ hb => hb) hs33
        have hs33 : HS _ _ _ [_, _, [(b6, .cells [(.int .i64 dm33.n)] none false)], _, _, _] _ := hs33
        replace hT := hT.mono hF33
        refine wro 2 4 [] 47 48 [] [(48, (.pointer (some ⟨b20, 1, none⟩)))] trivial (by kernel_rfl) rfl fun gg34 => ?_
        refine wo_rk (rs_rec (q := 4) hs33 rfl rfl rfl rfl rfl rfl rfl rfl rfl) rfl ?_
        rintro _ H35 _ ⟨hs35, _⟩
        have hs35 : HS _ _ _ [_, _, _, _, [(b20, .cells [(.int .i64 op1), (.int .i64 r33), (.int .i64 0), (.int .i64 0), (.int .i64 0), (.slice none 0 0)] none false)], _] _ := hs35
        refine wo_end 0 rfl ?_
        exact jn30 _ _ ⟨r33, (⟨dm33.n⟩ : DigT), _, (hF33), hs35, (agC rfl (agC rfl (agC rfl (agC rfl (agC rfl (agC rfl (agC rfl agN))))))), (by first | exact opOK_t (by omega) (by omega) | exact opOK_f (by omega) rfl), (by first | assumption | omega | (simp at *; omega)), (by first | assumption | omega | (simp at *; omega))⟩
      · have c31 := c31b
        try simp only [BS] at c31
        exact jn30 _ _ ⟨0, (⟨dm12.n⟩ : DigT), _, (Fz.le_refl _), hs27, (agC rfl (agC rfl (agC rfl (agC rfl (agC rfl (agC rfl (agC rfl agN))))))), (by first | exact opOK_t (by omega) (by omega) | exact opOK_f (by omega) rfl), (by first | assumption | omega | (simp at *; omega)), (by first | assumption | omega | (simp at *; omega))⟩
    · skip
      rintro f30 H30 ⟨ja, jd1, F30, hF30, hs30, hf30, hja, rja, rjd1⟩
      refine wk_canon _ hf30 (fun gg30 => ?_)
      clear hf30
      replace hT := hT.mono hF30
      refine wk_foc 3 rfl ?_
      refine wr 1 [] 49 58 [] [(58, (.bool ((((infV op1).form == 3) || ((infV op1).form == 4)) || ((infV op1).form == 7))))] trivial (by kernel_rfl) rfl fun gg36 => ?_
      refine wk_join (fun f H' => ∃ (jb : Int) (jd2 : DigT) (F' : Fz), Fz.le F30 F' ∧ HS (Base.of H []) F' H' [[(b1, .cells [(.int .i64 c.params), (.int .i64 c.regs), (.slice ac_2 c.blocks.length kc_2)] none false)], [(b3, .cells [(.int .i64 0), (.int .i64 0), (.int .i64 0), (.int .i64 0), (.int .i64 0), (.slice none 0 0)] none false)], [(b6, .cells [(.int .i64 jd2.n)] none false)], p8, [(b20, .cells [(.int .i64 op1), (.int .i64 ja), (.int .i64 jb), (.int .i64 0), (.int .i64 0), (.slice none 0 0)] none false)], [(b25, .cells [(.string ⟨⟨(infV op1).name.b⟩⟩), (.int .i64 ((infV op1).form)), (.bool ((infV op1).ra)), (.bool ((infV op1).wa)), (.bool ((infV op1).rb)), (.bool ((infV op1).mt)), (.int .i64 ((infV op1).words))] none false)]] R ∧ agrees f [(0, (.int .i64 n)), (3, (.pointer (some ⟨b1, 0, none⟩))), (4, (.pointer (some ⟨b3, 0, none⟩))), (5, (.pointer (some ⟨b6, 0, none⟩))), (7, (.int .i64 op1)), (9, (.pointer (some ⟨b20, 0, none⟩))), (12, (.int .i64 ((infV op1).form)))] ∧ (opOK (decide (vformV op1 = 3 ∨ vformV op1 = 4 ∨ vformV op1 = 7)) jb c.regs = true) ∧ (in64 jb) ∧ (in64 jd2.n)) (fun jn37 => ?_) ?_
      · skip
        refine wk_if 0 0 (v := ((((infV op1).form == 3) || ((infV op1).form == 4)) || ((infV op1).form == 7))) rfl rfl rfl rfl (fun c38b => ?_) (fun c38b => ?_)
        · have c38 := c38b
          try simp only [BS] at c38
          refine wk_region ?_
          refine wro 3 0 [(2, .o (.int .i64 c.regs))] 59 61 [] [(59, (.pointer (some ⟨b6, 0, none⟩))), (61, (.int .i64 c.regs))] (vA (ql 3 1 (HS.hc hs30 (i := 0) rfl) rfl rfl) trivial) (by kernel_rfl) rfl fun gg39 => ?_
          refine wo_call (ap_call rfl rfl rfl) rfl rfl (next_c ex (⟨jd1.n⟩ : DigT) c.regs (HS.callOwn hs30 (i := 2) rfl) (by first | omega | (dsimp only; omega)) (by first | omega | (dsimp only; omega)) hT (by first | omega | (dsimp only; omega))) ?_
          rintro _ H40 ⟨r40, dm40, F40, hF40, hs40, rfl, gm40_0, h40⟩
          replace hs40 := HS.backOwn hs30 (i := 2) rfl rfl (fun _ hb => hb) hs40
          have hs40 : HS _ _ _ [_, _, [(b6, .cells [(.int .i64 dm40.n)] none false)], _, [(b20, .cells [(.int .i64 op1), (.int .i64 ja), (.int .i64 0), (.int .i64 0), (.int .i64 0), (.slice none 0 0)] none false)], _] _ := hs40
          replace hT := hT.mono hF40
          refine wro 2 4 [] 63 64 [] [(64, (.pointer (some ⟨b20, 2, none⟩)))] trivial (by kernel_rfl) rfl fun gg41 => ?_
          refine wo_rk (rs_rec (q := 4) hs40 rfl rfl rfl rfl rfl rfl rfl rfl rfl) rfl ?_
          rintro _ H42 _ ⟨hs42, _⟩
          have hs42 : HS _ _ _ [_, _, _, _, [(b20, .cells [(.int .i64 op1), (.int .i64 ja), (.int .i64 r40), (.int .i64 0), (.int .i64 0), (.slice none 0 0)] none false)], _] _ := hs42
          refine wo_end 0 rfl ?_
          exact jn37 _ _ ⟨r40, (⟨dm40.n⟩ : DigT), _, (hF40), hs42, (agC rfl (agC rfl (agC rfl (agC rfl (agC rfl (agC rfl (agC rfl agN))))))), (by first | exact opOK_t (by omega) (by omega) | exact opOK_f (by omega) rfl), (by first | assumption | omega | (simp at *; omega)), (by first | assumption | omega | (simp at *; omega))⟩
        · have c38 := c38b
          try simp only [BS] at c38
          exact jn37 _ _ ⟨0, (⟨jd1.n⟩ : DigT), _, (Fz.le_refl _), hs30, (agC rfl (agC rfl (agC rfl (agC rfl (agC rfl (agC rfl (agC rfl agN))))))), (by first | exact opOK_t (by omega) (by omega) | exact opOK_f (by omega) rfl), (by first | assumption | omega | (simp at *; omega)), (by first | assumption | omega | (simp at *; omega))⟩
      · skip
        rintro f37 H37 ⟨jb, jd2, F37, hF37, hs37, hf37, hjb, rjb, rjd2⟩
        refine wk_canon _ hf37 (fun gg37 => ?_)
        clear hf37
        replace hT := hT.mono hF37
        refine wk_foc 3 rfl ?_
        refine wr 1 [] 65 66 [] [(66, (.bool ((infV op1).form == 4)))] trivial (by kernel_rfl) rfl fun gg43 => ?_
        refine wk_join (fun f H' => ∃ (jc : Int) (jd3 : DigT) (F' : Fz), Fz.le F37 F' ∧ HS (Base.of H []) F' H' [[(b1, .cells [(.int .i64 c.params), (.int .i64 c.regs), (.slice ac_2 c.blocks.length kc_2)] none false)], [(b3, .cells [(.int .i64 0), (.int .i64 0), (.int .i64 0), (.int .i64 0), (.int .i64 0), (.slice none 0 0)] none false)], [(b6, .cells [(.int .i64 jd3.n)] none false)], p8, [(b20, .cells [(.int .i64 op1), (.int .i64 ja), (.int .i64 jb), (.int .i64 jc), (.int .i64 0), (.slice none 0 0)] none false)], [(b25, .cells [(.string ⟨⟨(infV op1).name.b⟩⟩), (.int .i64 ((infV op1).form)), (.bool ((infV op1).ra)), (.bool ((infV op1).wa)), (.bool ((infV op1).rb)), (.bool ((infV op1).mt)), (.int .i64 ((infV op1).words))] none false)]] R ∧ agrees f [(0, (.int .i64 n)), (3, (.pointer (some ⟨b1, 0, none⟩))), (4, (.pointer (some ⟨b3, 0, none⟩))), (5, (.pointer (some ⟨b6, 0, none⟩))), (7, (.int .i64 op1)), (9, (.pointer (some ⟨b20, 0, none⟩)))] ∧ (opOK (decide (vformV op1 = 4)) jc c.regs = true) ∧ (in64 jc) ∧ (in64 jd3.n)) (fun jn44 => ?_) ?_
        · skip
          refine wk_if 0 0 (v := ((infV op1).form == 4)) rfl rfl rfl rfl (fun c45b => ?_) (fun c45b => ?_)
          · have c45 := c45b
            try simp only [BS] at c45
            refine wk_region ?_
            refine wro 3 0 [(2, .o (.int .i64 c.regs))] 67 69 [] [(67, (.pointer (some ⟨b6, 0, none⟩))), (69, (.int .i64 c.regs))] (vA (ql 3 1 (HS.hc hs37 (i := 0) rfl) rfl rfl) trivial) (by kernel_rfl) rfl fun gg46 => ?_
            refine wo_call (ap_call rfl rfl rfl) rfl rfl (next_c ex (⟨jd2.n⟩ : DigT) c.regs (HS.callOwn hs37 (i := 2) rfl) (by first | omega | (dsimp only; omega)) (by first | omega | (dsimp only; omega)) hT (by first | omega | (dsimp only; omega))) ?_
            rintro _ H47 ⟨r47, dm47, F47, hF47, hs47, rfl, gm47_0, h47⟩
            replace hs47 := HS.backOwn hs37 (i := 2) rfl rfl (fun _ hb => hb) hs47
            have hs47 : HS _ _ _ [_, _, [(b6, .cells [(.int .i64 dm47.n)] none false)], _, [(b20, .cells [(.int .i64 op1), (.int .i64 ja), (.int .i64 jb), (.int .i64 0), (.int .i64 0), (.slice none 0 0)] none false)], _] _ := hs47
            replace hT := hT.mono hF47
            refine wro 2 4 [] 71 72 [] [(72, (.pointer (some ⟨b20, 3, none⟩)))] trivial (by kernel_rfl) rfl fun gg48 => ?_
            refine wo_rk (rs_rec (q := 4) hs47 rfl rfl rfl rfl rfl rfl rfl rfl rfl) rfl ?_
            rintro _ H49 _ ⟨hs49, _⟩
            have hs49 : HS _ _ _ [_, _, _, _, [(b20, .cells [(.int .i64 op1), (.int .i64 ja), (.int .i64 jb), (.int .i64 r47), (.int .i64 0), (.slice none 0 0)] none false)], _] _ := hs49
            refine wo_end 0 rfl ?_
            exact jn44 _ _ ⟨r47, (⟨dm47.n⟩ : DigT), _, (hF47), hs49, (agC rfl (agC rfl (agC rfl (agC rfl (agC rfl (agC rfl agN)))))), (by first | exact opOK_t (by omega) (by omega) | exact opOK_f (by omega) rfl), (by first | assumption | omega | (simp at *; omega)), (by first | assumption | omega | (simp at *; omega))⟩
          · have c45 := c45b
            try simp only [BS] at c45
            exact jn44 _ _ ⟨0, (⟨jd2.n⟩ : DigT), _, (Fz.le_refl _), hs37, (agC rfl (agC rfl (agC rfl (agC rfl (agC rfl (agC rfl agN)))))), (by first | exact opOK_t (by omega) (by omega) | exact opOK_f (by omega) rfl), (by first | assumption | omega | (simp at *; omega)), (by first | assumption | omega | (simp at *; omega))⟩
        · skip
          rintro f44 H44 ⟨jc, jd3, F44, hF44, hs44, hf44, hjc, rjc, rjd3⟩
          refine wk_canon _ hf44 (fun gg44 => ?_)
          clear hf44
          replace hT := hT.mono hF44
          refine wk_foc 3 rfl ?_
          refine wr 3 [] 73 73 [] [(73, (.int .i64 op1))] trivial (by kernel_rfl) rfl fun gg50 => ?_
          refine wr 1 [] 74 75 [] [(74, (.bool (op1 == 13)))] trivial (by kernel_rfl) rfl fun gg51 => ?_
          refine wk_join (fun f H' => ∃ (jq : Int) (asl : List Int) (jd4 : DigT) (lra52_4_5 : Option Addr) (lrk52_4_5 : Nat) (F' : Fz), Fz.le F44 F' ∧ HS (Base.of H []) F' H' [[(b1, .cells [(.int .i64 c.params), (.int .i64 c.regs), (.slice ac_2 c.blocks.length kc_2)] none false)], [(b3, .cells [(.int .i64 0), (.int .i64 0), (.int .i64 0), (.int .i64 0), (.int .i64 0), (.slice none 0 0)] none false)], [(b6, .cells [(.int .i64 jd4.n)] none false)], p8, [(b20, .cells [(.int .i64 op1), (.int .i64 ja), (.int .i64 jb), (.int .i64 jc), (.int .i64 jq), (.slice lra52_4_5 asl.length lrk52_4_5)] none false)], [(b25, .cells [(.string ⟨⟨(infV op1).name.b⟩⟩), (.int .i64 ((infV op1).form)), (.bool ((infV op1).ra)), (.bool ((infV op1).wa)), (.bool ((infV op1).rb)), (.bool ((infV op1).mt)), (.int .i64 ((infV op1).words))] none false)]] R ∧ SR F' (.slice lra52_4_5 asl.length lrk52_4_5) asl ∧ agrees f [(4, (.pointer (some ⟨b3, 0, none⟩))), (9, (.pointer (some ⟨b20, 0, none⟩)))] ∧ (immV c.params op1 jq = true) ∧ (in64 jq) ∧ ((op1 = 6 ∨ asl.length = 0) ∧ asl.length ≤ 6) ∧ (asl.all (regOK c.regs) = true) ∧ ((op1 = 6 → (jq = 0 ∧ asl.length = 2 ∨ jq = 1 ∧ asl.length = 1)) ∧ (op1 = 34 ∨ op1 = 35 → jq < 2)) ∧ (in64 jd4.n)) (fun jn52 => ?_) ?_
          · skip
            refine wk_if 0 1 (v := (op1 == 13)) rfl rfl rfl rfl (fun c53b => ?_) (fun c53b => ?_)
            · have c53 := c53b
              try simp only [BS] at c53
              refine wk_region ?_
              refine wm (.pointer (some ⟨b6, 0, none⟩)) rfl rfl rfl ?_
              refine wo_call (ap_call rfl rfl rfl) rfl rfl (next_c ex (⟨jd3.n⟩ : DigT) (400) (HS.callOwn hs44 (i := 2) rfl) (by first | omega | (dsimp only; omega)) (by first | omega | (dsimp only; omega)) hT (by first | omega | (dsimp only; omega))) ?_
              rintro _ H54 ⟨r54, dm54, F54, hF54, hs54, rfl, gm54_0, h54⟩
              replace hs54 := HS.backOwn hs44 (i := 2) rfl rfl (fun _ hb => hb) hs54
              have hs54 : HS _ _ _ [_, _, [(b6, .cells [(.int .i64 dm54.n)] none false)], _, [(b20, .cells [(.int .i64 op1), (.int .i64 ja), (.int .i64 jb), (.int .i64 jc), (.int .i64 0), (.slice none 0 0)] none false)], _] _ := hs54
              replace hT := hT.mono hF54
              refine wm (.int .i64 n) rfl rfl rfl ?_
              refine wo_call (ap_call rfl rfl rfl) rfl rfl (word_c ex r54 n (HS.call hs54) (by first | omega | (dsimp only; omega)) (by first | omega | (dsimp only; omega)) hT) ?_
              rintro _ H55 ⟨r55, F55, hF55, hs55, rfl, h55⟩
              replace hs55 := HS.back hs54 rfl hs55
              have hs55 : HS _ _ _ [_, _, _, _, _, _] _ := hs55
              replace hT := hT.mono hF55
              refine wro 2 4 [] 80 81 [] [(81, (.pointer (some ⟨b20, 4, none⟩)))] trivial (by kernel_rfl) rfl fun gg56 => ?_
              refine wo_rk (rs_rec (q := 4) hs55 rfl rfl rfl rfl rfl rfl rfl rfl rfl) rfl ?_
              rintro _ H57 _ ⟨hs57, _⟩
              have hs57 : HS _ _ _ [_, _, _, _, [(b20, .cells [(.int .i64 op1), (.int .i64 ja), (.int .i64 jb), (.int .i64 jc), (.int .i64 r55), (.slice none 0 0)] none false)], _] _ := hs57
              refine wo_end 0 rfl ?_
              exact jn52 _ _ ⟨r55, ([] : List Int), (⟨dm54.n⟩ : DigT), none, 0, _, (Fz.le_trans (hF54) hF55), hs57, (SR.nil : SR F55 (.slice none 0 0) ([] : List Int)), (agC rfl (agC rfl agN)), (by exact immT (by omega)), (by first | assumption | omega | (simp at *; omega)), (by first | omega | (simp <;> omega)), (by first | assumption | rfl), (by first | omega | (simp <;> omega)), (by first | assumption | omega | (simp at *; omega))⟩
            · have c53 := c53b
              try simp only [BS] at c53
              refine wr 1 [] 82 83 [] [(82, (.bool (op1 == 33)))] trivial (by kernel_rfl) rfl fun gg58 => ?_
              refine wk_if 0 2 (v := (op1 == 33)) rfl rfl rfl rfl (fun c59b => ?_) (fun c59b => ?_)
              · have c59 := c59b
                try simp only [BS] at c59
                refine wk_region ?_
                refine wm (.pointer (some ⟨b6, 0, none⟩)) rfl rfl rfl ?_
                refine wo_call (ap_call rfl rfl rfl) rfl rfl (next_c ex (⟨jd3.n⟩ : DigT) (9) (HS.callOwn hs44 (i := 2) rfl) (by first | omega | (dsimp only; omega)) (by first | omega | (dsimp only; omega)) hT (by first | omega | (dsimp only; omega))) ?_
                rintro _ H60 ⟨r60, dm60, F60, hF60, hs60, rfl, gm60_0, h60⟩
                replace hs60 := HS.backOwn hs44 (i := 2) rfl rfl (fun _ hb => hb) hs60
                have hs60 : HS _ _ _ [_, _, [(b6, .cells [(.int .i64 dm60.n)] none false)], _, [(b20, .cells [(.int .i64 op1), (.int .i64 ja), (.int .i64 jb), (.int .i64 jc), (.int .i64 0), (.slice none 0 0)] none false)], _] _ := hs60
                replace hT := hT.mono hF60
                refine wro 3 2 [] 86 88 [] [(86, (.int .i64 (r60 - 4))), (88, (.pointer (some ⟨b20, 4, none⟩)))] (vA (vi (n := r60 - 4) (by first | omega | (dsimp only; omega))) trivial) (by kernel_rfl) rfl fun gg61 => ?_
                refine wo_rk (rs_rec (q := 4) hs60 rfl rfl rfl rfl rfl rfl rfl rfl rfl) rfl ?_
                rintro _ H62 _ ⟨hs62, _⟩
                have hs62 : HS _ _ _ [_, _, _, _, [(b20, .cells [(.int .i64 op1), (.int .i64 ja), (.int .i64 jb), (.int .i64 jc), (.int .i64 (r60 - 4)), (.slice none 0 0)] none false)], _] _ := hs62
                refine wo_end 0 rfl ?_
                exact jn52 _ _ ⟨r60 - 4, ([] : List Int), (⟨dm60.n⟩ : DigT), none, 0, _, (hF60), hs62, (SR.nil : SR F60 (.slice none 0 0) ([] : List Int)), (agC rfl (agC rfl agN)), (by exact immT (by omega)), (by first | assumption | omega | (simp at *; omega)), (by first | omega | (simp <;> omega)), (by first | assumption | rfl), (by first | omega | (simp <;> omega)), (by first | assumption | omega | (simp at *; omega))⟩
              · have c59 := c59b
                try simp only [BS] at c59
                refine wr 1 [] 89 90 [] [(89, (.bool (op1 == 34)))] trivial (by kernel_rfl) rfl fun gg63 => ?_
                refine wk_if 1 0 (v := (op1 == 34)) rfl rfl rfl rfl (fun c64b => ?_) (fun c64b => ?_)
                · have c64 := c64b
                  try simp only [BS] at c64
                  refine wk_ift 0 (v := (op1 == 34)) rfl c64b rfl rfl ?_
                  refine wk_region ?_
                  refine wm (.pointer (some ⟨b6, 0, none⟩)) rfl rfl rfl ?_
                  refine wo_call (ap_call rfl rfl rfl) rfl rfl (next_c ex (⟨jd3.n⟩ : DigT) (2) (HS.callOwn hs44 (i := 2) rfl) (by first | omega | (dsimp only; omega)) (by first | omega | (dsimp only; omega)) hT (by first | omega | (dsimp only; omega))) ?_
                  rintro _ H65 ⟨r65, dm65, F65, hF65, hs65, rfl, gm65_0, h65⟩
                  replace hs65 := HS.backOwn hs44 (i := 2) rfl rfl (fun _ hb => hb) hs65
                  have hs65 : HS _ _ _ [_, _, [(b6, .cells [(.int .i64 dm65.n)] none false)], _, [(b20, .cells [(.int .i64 op1), (.int .i64 ja), (.int .i64 jb), (.int .i64 jc), (.int .i64 0), (.slice none 0 0)] none false)], _] _ := hs65
                  replace hT := hT.mono hF65
                  refine wro 2 2 [] 94 95 [] [(95, (.pointer (some ⟨b20, 4, none⟩)))] trivial (by kernel_rfl) rfl fun gg66 => ?_
                  refine wo_rk (rs_rec (q := 4) hs65 rfl rfl rfl rfl rfl rfl rfl rfl rfl) rfl ?_
                  rintro _ H67 _ ⟨hs67, _⟩
                  have hs67 : HS _ _ _ [_, _, _, _, [(b20, .cells [(.int .i64 op1), (.int .i64 ja), (.int .i64 jb), (.int .i64 jc), (.int .i64 r65), (.slice none 0 0)] none false)], _] _ := hs67
                  refine wo_end 0 rfl ?_
                  exact jn52 _ _ ⟨r65, ([] : List Int), (⟨dm65.n⟩ : DigT), none, 0, _, (hF65), hs67, (SR.nil : SR F65 (.slice none 0 0) ([] : List Int)), (agC rfl (agC rfl agN)), (by exact immT (by omega)), (by first | assumption | omega | (simp at *; omega)), (by first | omega | (simp <;> omega)), (by first | assumption | rfl), (by first | omega | (simp <;> omega)), (by first | assumption | omega | (simp at *; omega))⟩
                · have c64 := c64b
                  try simp only [BS] at c64
                  refine wr 1 [] 89 91 [] [(89, (.bool (op1 == 35)))] trivial (by kernel_rfl) rfl fun gg68 => ?_
                  refine wk_if 0 1 (v := (op1 == 35)) rfl rfl rfl rfl (fun c69b => ?_) (fun c69b => ?_)
                  · have c69 := c69b
                    try simp only [BS] at c69
                    refine wk_region ?_
                    refine wm (.pointer (some ⟨b6, 0, none⟩)) rfl rfl rfl ?_
                    refine wo_call (ap_call rfl rfl rfl) rfl rfl (next_c ex (⟨jd3.n⟩ : DigT) (2) (HS.callOwn hs44 (i := 2) rfl) (by first | omega | (dsimp only; omega)) (by first | omega | (dsimp only; omega)) hT (by first | omega | (dsimp only; omega))) ?_
                    rintro _ H70 ⟨r70, dm70, F70, hF70, hs70, rfl, gm70_0, h70⟩
                    replace hs70 := HS.backOwn hs44 (i := 2) rfl rfl (fun _ hb => hb) hs70
                    have hs70 : HS _ _ _ [_, _, [(b6, .cells [(.int .i64 dm70.n)] none false)], _, [(b20, .cells [(.int .i64 op1), (.int .i64 ja), (.int .i64 jb), (.int .i64 jc), (.int .i64 0), (.slice none 0 0)] none false)], _] _ := hs70
                    replace hT := hT.mono hF70
                    refine wro 2 2 [] 94 95 [] [(95, (.pointer (some ⟨b20, 4, none⟩)))] trivial (by kernel_rfl) rfl fun gg71 => ?_
                    refine wo_rk (rs_rec (q := 4) hs70 rfl rfl rfl rfl rfl rfl rfl rfl rfl) rfl ?_
                    rintro _ H72 _ ⟨hs72, _⟩
                    have hs72 : HS _ _ _ [_, _, _, _, [(b20, .cells [(.int .i64 op1), (.int .i64 ja), (.int .i64 jb), (.int .i64 jc), (.int .i64 r70), (.slice none 0 0)] none false)], _] _ := hs72
                    refine wo_end 0 rfl ?_
                    exact jn52 _ _ ⟨r70, ([] : List Int), (⟨dm70.n⟩ : DigT), none, 0, _, (hF70), hs72, (SR.nil : SR F70 (.slice none 0 0) ([] : List Int)), (agC rfl (agC rfl agN)), (by exact immT (by omega)), (by first | assumption | omega | (simp at *; omega)), (by first | omega | (simp <;> omega)), (by first | assumption | rfl), (by first | omega | (simp <;> omega)), (by first | assumption | omega | (simp at *; omega))⟩
                  · have c69 := c69b
                    try simp only [BS] at c69
                    refine wr 1 [] 96 97 [] [(96, (.bool (op1 == 6)))] trivial (by kernel_rfl) rfl fun gg73 => ?_
                    refine wk_if 1 0 (v := (op1 == 6)) rfl rfl rfl rfl (fun c74b => ?_) (fun c74b => ?_)
                    · have c74 := c74b
                      try simp only [BS] at c74
                      refine wk_region ?_
                      refine wm (.pointer (some ⟨b6, 0, none⟩)) rfl rfl rfl ?_
                      refine wo_call (ap_call rfl rfl rfl) rfl rfl (next_c ex (⟨jd3.n⟩ : DigT) (2) (HS.callOwn hs44 (i := 2) rfl) (by first | omega | (dsimp only; omega)) (by first | omega | (dsimp only; omega)) hT (by first | omega | (dsimp only; omega))) ?_
                      rintro _ H75 ⟨r75, dm75, F75, hF75, hs75, rfl, gm75_0, h75⟩
                      replace hs75 := HS.backOwn hs44 (i := 2) rfl rfl (fun _ hb => hb) hs75
                      have hs75 : HS _ _ _ [_, _, [(b6, .cells [(.int .i64 dm75.n)] none false)], _, [(b20, .cells [(.int .i64 op1), (.int .i64 ja), (.int .i64 jb), (.int .i64 jc), (.int .i64 0), (.slice none 0 0)] none false)], _] _ := hs75
                      replace hT := hT.mono hF75
                      refine wro 2 2 [] 100 101 [] [(101, (.pointer (some ⟨b20, 4, none⟩)))] trivial (by kernel_rfl) rfl fun gg76 => ?_
                      refine wo_rk (rs_rec (q := 4) hs75 rfl rfl rfl rfl rfl rfl rfl rfl rfl) rfl ?_
                      rintro _ H77 _ ⟨hs77, _⟩
                      have hs77 : HS _ _ _ [_, _, _, _, [(b20, .cells [(.int .i64 op1), (.int .i64 ja), (.int .i64 jb), (.int .i64 jc), (.int .i64 r75), (.slice none 0 0)] none false)], _] _ := hs77
                      refine wo_end 2 rfl ?_
                      refine wr 2 [(2, .o (.int .i64 r75))] 102 105 [13] [(13, (.int .i64 (2 - r75)))] (vA (ql 2 4 (HS.hc hs77 (i := 4) rfl) rfl rfl) (vA (vi (n := 2 - r75) (by first | omega | (dsimp only; omega))) trivial)) (by kernel_rfl) rfl fun gg78 => ?_
                      have hs80 := HS.snoc hs77
                      have hs80 : HS _ _ _ [_, _, _, _, _, _, []] _ := hs80
                      refine wk_loop_inv (fun (mm : Nat) f H' => ∃ (kk : Int) (al : List Int) (dl : DigT) (lrp79_4_5 : Fp) (lra79_4_5 : Option Addr) (lrk79_4_5 : Nat) (F' : Fz), Fz.le F75 F' ∧ HS (Base.of H []) F' H' [[(b1, .cells [(.int .i64 c.params), (.int .i64 c.regs), (.slice ac_2 c.blocks.length kc_2)] none false)], [(b3, .cells [(.int .i64 0), (.int .i64 0), (.int .i64 0), (.int .i64 0), (.int .i64 0), (.slice none 0 0)] none false)], [(b6, .cells [(.int .i64 dl.n)] none false)], p8, [(b20, .cells [(.int .i64 op1), (.int .i64 ja), (.int .i64 jb), (.int .i64 jc), (.int .i64 r75), (.slice lra79_4_5 al.length lrk79_4_5)] none false)], [(b25, .cells [(.string ⟨⟨(infV op1).name.b⟩⟩), (.int .i64 ((infV op1).form)), (.bool ((infV op1).ra)), (.bool ((infV op1).wa)), (.bool ((infV op1).rb)), (.bool ((infV op1).mt)), (.int .i64 ((infV op1).words))] none false)], lrp79_4_5] R ∧ OS F' (.slice lra79_4_5 al.length lrk79_4_5) al lrp79_4_5 ∧ agrees f [(3, (.pointer (some ⟨b1, 0, none⟩))), (4, (.pointer (some ⟨b3, 0, none⟩))), (5, (.pointer (some ⟨b6, 0, none⟩))), (9, (.pointer (some ⟨b20, 0, none⟩))), (13, (.int .i64 kk))] ∧ mm = kk.toNat ∧ ((al.length : Int) + kk = 2 - r75 ∧ 0 ≤ kk) ∧ (al.all (regOK c.regs) = true) ∧ (in64 dl.n) ∧ (kk ≤ 2)) _ ⟨2 - r75, ([] : List Int), (⟨dm75.n⟩ : DigT), [], none, 0, _, (Fz.le_refl _), hs80, (OS.nil : OS F75 (.slice none 0 0) ([] : List Int) []), (agC rfl (agC rfl (agC rfl (agC rfl (agC rfl agN))))), rfl, (by simp; omega), (by rfl), (by first | assumption | omega | (simp at *; omega)), (by first | assumption | omega | (simp at *; omega))⟩ ?_
                      rintro mm79 f79 H79 ⟨kk, al, dl, lrp79_4_5, lra79_4_5, lrk79_4_5, F79, hF79, hs79, lrh79_4_5, hf79, rfl, q1, q2, q3, q4⟩ ih79
                      refine wk_canon _ hf79 (fun gg79 => ?_)
                      clear hf79
                      replace hT := hT.mono hF79
                      refine wk_foc 2 rfl ?_
                      refine wr 1 [] 106 107 [] [(107, (.bool (decide ((0 : Int) < kk))))] trivial (by kernel_rfl) rfl fun gg81 => ?_
                      refine wk_if 3 3 (v := (decide ((0 : Int) < kk))) rfl rfl rfl rfl (fun c82b => ?_) (fun c82b => ?_)
                      · have c82 := c82b
                        try simp only [BS] at c82
                        refine wf_region rfl ?_
                        refine wf_pure (v := (.pointer (some ⟨b20, 5, none⟩))) (id := .v) (ap_fa rfl rfl) rfl rfl (did_v rfl) (okD_v _) ?_
                        refine wf_pure (v := (.slice lra79_4_5 al.length lrk79_4_5)) (id := .l b20) (ap_ld1 (i := 5) rfl rfl (HS.hc hs79.log0 (i := 4) rfl) rfl rfl) rfl rfl (did_l rfl) (⟨.inl rfl, trivial⟩) ?_
                        refine fm (.pointer (some ⟨b6, 0, none⟩)) rfl rfl rfl ?_
                        refine wf_pure (v := (.pointer (some ⟨b1, 1, none⟩))) (id := .v) (ap_fa rfl rfl) rfl rfl (did_v rfl) (okD_v _) ?_
                        refine wf_pure (v := (.int .i64 c.regs)) (id := .l b1) (ap_ld1 (i := 1) rfl rfl (HS.hc hs79.log0 (i := 0) rfl) rfl rfl) rfl rfl (did_l rfl) (⟨.inl rfl, ⟨.inr trivial, ⟨.inr trivial, ⟨.inr trivial, trivial⟩⟩⟩⟩) ?_
                        refine wf_call (W := [b6]) (ap_call rfl rfl rfl) rfl rfl rfl (next_c ex (⟨dl.n⟩ : DigT) c.regs (HS.callOwn hs79.log0 (i := 2) rfl) (by first | omega | (dsimp only; omega)) (by first | omega | (dsimp only; omega)) hT (by first | omega | (dsimp only; omega))) (⟨.inl rfl, ⟨.inl rfl, ⟨.inl rfl, ⟨.inr (HS.nin hs79 (i := 4) (j := 2) rfl rfl (by decide) (by simp)), ⟨.inr trivial, trivial⟩⟩⟩⟩⟩) ?_
                        rintro _ H83 ⟨r83, dm83, F83, hF83, hs83, rfl, gm83_0, h83⟩
                        refine ⟨HS.didW hs83, fun lg83 hlg83 => ?_⟩
                        replace hs83 := HS.backOwn hs79.log0 (i := 2) rfl rfl (fun _ hb => hb) hs83
                        replace hs83 := HS.lg hs83 hs79 hlg83
                        generalize ({ H83 with log := lg83 } : Heap) = H83g at hs83 ⊢
                        have hs83 : HS _ _ _ [_, _, [(b6, .cells [(.int .i64 dm83.n)] none false)], _, [(b20, .cells [(.int .i64 op1), (.int .i64 ja), (.int .i64 jb), (.int .i64 jc), (.int .i64 r75), (.slice lra79_4_5 al.length lrk79_4_5)] none false)], _, lrp79_4_5] _ := hs83
                        replace hT := hT.mono hF83
                        replace lrh79_4_5 := lrh79_4_5.mono hF83
                        refine wf_rs (id := .a) (rs_lit (α := Int) (ps := [(0, (.int .i64 r83))]) (cells := [(.int .i64 r83)]) ([r83] : List Int) hs83.log0 rfl rfl rfl (by kernel_rfl) ⟨[(.int .i64 r83)], [], rfl, ⟨rfl, by first | omega | (dsimp only; omega)⟩, rfl⟩ rfl) rfl rfl (fun _ _ _ _ => did_a rfl rfl rfl) (⟨.inl rfl, ⟨.inl rfl, ⟨.inl rfl, ⟨.inl rfl, ⟨.inr trivial, ⟨.inr trivial, trivial⟩⟩⟩⟩⟩⟩) ?_
                        rintro _ H85 p84 ⟨a84, k84, rfl, ho84, hs85, _⟩ lg85 hlg85
                        replace hs85 := HS.lg hs85 hs83 hlg85
                        generalize ({ H85 with log := lg85 } : Heap) = H85g at hs85 ⊢
                        have hs85 : HS _ _ _ [_, _, _, _, _, _, _, p84] _ := hs85
                        refine wf_rs (id := .x (lrp79_4_5.map Prod.fst)) (rs_app (α := Int) (q := 6) lrh79_4_5 hs85.log0 rfl rfl rfl (OS.sv ho84 hs85.log0 (i := 7) rfl) rfl rfl rfl rfl rfl rfl rfl (by first | omega | (simp only [List.length_cons, List.length_nil]; omega))) rfl rfl (by rintro _ _ p86 ⟨a86, k86, rfl, ho86, _, hwr⟩; exact did_x rfl rfl (Wr.did hwr)) (⟨.inl rfl, ⟨.inl rfl, ⟨.inl rfl, ⟨.inl rfl, ⟨.inl rfl, ⟨.inl rfl, ⟨.inl rfl, trivial⟩⟩⟩⟩⟩⟩⟩) ?_
                        rintro _ H87 p86 ⟨a86, k86, rfl, ho86, hs87, _⟩ lg87 hlg87
                        replace hs87 := HS.lg hs87 hs85 hlg87
                        generalize ({ H87 with log := lg87 } : Heap) = H87g at hs87 ⊢
                        have hs87 : HS _ _ _ [_, _, _, _, _, _, p86, _] _ := hs87
                        refine wf_pure (v := (.pointer (some ⟨b20, 5, none⟩))) (id := .v) (ap_fa rfl rfl) rfl rfl (did_v rfl) (okD_v _) ?_
                        refine wf_rk (id := .x [b20]) (rs_rec (q := 4) hs87.log0 rfl rfl rfl rfl rfl rfl rfl rfl rfl) rfl (by rintro _ _ _ ⟨_, hwr⟩; exact did_x rfl rfl (Wr.did hwr)) (⟨.inl rfl, ⟨.inl rfl, ⟨.inl rfl, ⟨.inl rfl, ⟨.inl rfl, ⟨.inl rfl, ⟨.inl rfl, ⟨.inl rfl, ⟨.inl rfl, trivial⟩⟩⟩⟩⟩⟩⟩⟩⟩) ?_
                        rintro _ H88 _ ⟨hs88, _⟩ lg88 hlg88
                        replace hs88 := HS.lg hs88 hs87 hlg88
                        generalize ({ H88 with log := lg88 } : Heap) = H88g at hs88 ⊢
                        have hs88 : HS _ _ _ [_, _, _, _, [(b20, .cells [(.int .i64 op1), (.int .i64 ja), (.int .i64 jb), (.int .i64 jc), (.int .i64 r75), (.slice a86 (al ++ ([r83] : List Int)).length k86)] none false)], _, _, _] _ := hs88
                        refine wf_nil ?_
                        refine wk_foc 2 rfl ?_
                        refine wr 1 [] 108 109 [13] [(13, (.int .i64 (kk - 1)))] (vA (vi (n := kk - 1) (by first | omega | (dsimp only; omega))) trivial) (by kernel_rfl) rfl fun gg89 => ?_
                        refine ih79 _ _ _ ?_ ⟨kk - 1, al ++ ([r83] : List Int), (⟨dm83.n⟩ : DigT), p86, a86, k86, _, (Fz.le_trans (hF79) hF83), (HS.sub hs88 (List.sublist_append_left _ _)), ho86, (agC rfl (agC rfl (agC rfl (agC rfl (agC rfl agN))))), rfl, (by simp; omega), (by exact all_app q2 (regOK_iff.2 (by omega))), (by first | assumption | omega | (simp at *; omega)), (by first | assumption | omega | (simp at *; omega))⟩
                        omega
                      · have c82 := c82b
                        try simp only [BS] at c82
                        obtain ⟨F90, hF90, hs90, hr90, hp90⟩ := OS.frz lrh79_4_5 hs79 (i := 6) rfl
                        have hs90 : HS _ _ _ [_, _, [(b6, .cells [(.int .i64 dl.n)] none false)], _, [(b20, .cells [(.int .i64 op1), (.int .i64 ja), (.int .i64 jb), (.int .i64 jc), (.int .i64 r75), (.slice lra79_4_5 al.length lrk79_4_5)] none false)], _, _] _ := hs90
                        replace hT := hT.mono hF90
                        replace lrh79_4_5 := lrh79_4_5.mono hF90
                        exact jn52 _ _ ⟨r75, al, (⟨dl.n⟩ : DigT), lra79_4_5, lrk79_4_5, _, (Fz.le_trans (Fz.le_trans (hF75) hF79) hF90), (HS.sub hs90 (List.sublist_append_left _ _)), hr90, (agC rfl (agC rfl agN)), (by exact immT (by omega)), (by first | assumption | omega | (simp at *; omega)), (by first | omega | (simp <;> omega)), (by first | assumption | rfl), (by first | omega | (simp <;> omega)), (by first | assumption | omega | (simp at *; omega))⟩
                    · have c74 := c74b
                      try simp only [BS] at c74
                      exact jn52 _ _ ⟨0, ([] : List Int), (⟨jd3.n⟩ : DigT), none, 0, _, (Fz.le_refl _), hs44, (SR.nil : SR F44 (.slice none 0 0) ([] : List Int)), (agC rfl (agC rfl agN)), (by exact immT (by omega)), (by first | assumption | omega | (simp at *; omega)), (by first | omega | (simp <;> omega)), (by first | assumption | rfl), (by first | omega | (simp <;> omega)), (by first | assumption | omega | (simp at *; omega))⟩
          · skip
            rintro f52 H52 ⟨jq, asl, jd4, lra52_4_5, lrk52_4_5, F52, hF52, hs52, lrh52_4_5, hf52, hjq, rjq, hs1, hs2, hck, rjd4⟩
            refine wk_canon _ hf52 (fun gg52 => ?_)
            clear hf52
            replace hT := hT.mono hF52
            refine wk_foc 3 rfl ?_
            refine wk_region ?_
            refine wro 1 0 [(0, .o (.agg ⟨[(.int .i64 op1), (.int .i64 ja), (.int .i64 jb), (.int .i64 jc), (.int .i64 jq), (.slice lra52_4_5 asl.length lrk52_4_5)]⟩))] 119 119 [] [(119, (.agg ⟨[(.int .i64 op1), (.int .i64 ja), (.int .i64 jb), (.int .i64 jc), (.int .i64 jq), (.slice lra52_4_5 asl.length lrk52_4_5)]⟩))] (vA (qn 47 0 6 (HS.hc hs52 (i := 4) rfl) rfl rfl rfl rfl) trivial) (by kernel_rfl) rfl fun gg91 => ?_
            refine wo_rk (rs_rec (q := 1) hs52 rfl rfl rfl rfl rfl rfl rfl rfl rfl) rfl ?_
            rintro _ H92 _ ⟨hs92, _⟩
            have hs92 : HS _ _ _ [_, [(b3, .cells [(.int .i64 op1), (.int .i64 ja), (.int .i64 jb), (.int .i64 jc), (.int .i64 jq), (.slice lra52_4_5 asl.length lrk52_4_5)] none false)], [(b6, .cells [(.int .i64 jd4.n)] none false)], _, [(b20, .cells [(.int .i64 op1), (.int .i64 ja), (.int .i64 jb), (.int .i64 jc), (.int .i64 jq), (.slice lra52_4_5 asl.length lrk52_4_5)] none false)], _] _ := hs92
            refine wo_end 1 rfl ?_
            refine wk_ret ⟨.inr rfl, _, (rC rfl (ldVN rfl rfl (HS.hc hs92 (i := 1) rfl) rfl) rN), (⟨(⟨op1, ja, jb, jc, jq⟩ : InsT), asl⟩ : VInT), lra52_4_5, lrk52_4_5, _, (Fz.le_trans (Fz.le_trans (Fz.le_trans (Fz.le_trans (Fz.le_trans (Fz.le_trans (hF10) hF12) hF23) hF30) hF37) hF44) hF52), (HS.forget hs92), rfl, (by first | omega | (dsimp only; omega)), (by first | omega | (dsimp only; omega)), (by first | omega | (dsimp only; omega)), (by first | omega | (dsimp only; omega)), (by first | omega | (dsimp only; omega)), lrh52_4_5, (by exact vin_mk ho.2 hs1.1 hs1.2 hs2 hja hjb hjc hjq), (by exact decide_eq_true hck)⟩
end Go.Proofs.YtlabedbmgmfbaaaDoor.m4
