/-
 The generator of virtual code, function by function, each by a symbolic run: what it makes is valid. No condition but that the table lies as laid.
-/
import Derived.Test.YtlabedbmgmfbaaaDoorZVM3
noncomputable section
namespace Go.Proofs.YtlabedbmgmfbaaaDoor.m4
open Go.R
set_option maxRecDepth 10000
set_option linter.unusedVariables false
open m1 m2 m3
theorem wr64 (n : Int) : in64 (IntKind.i64.wrap n) := aJ n
theorem td64 (n : Int) {m : Int} (h : 0 < m) : in64 (Int.tdiv (IntKind.i64.wrap n) m) := vq (wr64 n) (by omega)
theorem hU {p : Prop} [Decidable p] {n r : Int} (h : p) (hn : 0 ≤ n ∧ n < r) : dq (decide p) n r = true := by rw [decide_eq_true h]; exact bA.2 hn
theorem fG {p : Prop} [Decidable p] {n r : Int} (h : ¬ p) (hn : n = 0) : dq (decide p) n r = true := by rw [decide_eq_false h, hn]; rfl
def opG (op : Int) : Prop := (op = 3 ∨ op = 6 ∨ (9 ≤ op ∧ op ≤ 13) ∨ (15 ≤ op ∧ op ≤ 35)) ∧ alV op = true
theorem ops_al {op : Int} (h : 15 ≤ op ∧ op ≤ 32) : opG op := ⟨by omega, decide_eq_true (by omega)⟩
theorem lit12 {k : Nat} (h : k < 12) : opG (([3, 6, 9, 10, 11, 12, 13, 33, 34, 35, 10, 9] : List Int).getD k 0) := by
 have : ∀ k : Fin 12, ((([3, 6, 9, 10, 11, 12, 13, 33, 34, 35, 10, 9] : List Int).getD k.val 0) = 3 ∨ (([3, 6, 9, 10, 11, 12, 13, 33, 34, 35, 10, 9] : List Int).getD k.val 0) = 6 ∨ (9 ≤ (([3, 6, 9, 10, 11, 12, 13, 33, 34, 35, 10, 9] : List Int).getD k.val 0) ∧ (([3, 6, 9, 10, 11, 12, 13, 33, 34, 35, 10, 9] : List Int).getD k.val 0) ≤ 13) ∨ (15 ≤ (([3, 6, 9, 10, 11, 12, 13, 33, 34, 35, 10, 9] : List Int).getD k.val 0) ∧ (([3, 6, 9, 10, 11, 12, 13, 33, 34, 35, 10, 9] : List Int).getD k.val 0) ≤ 35)) ∧ alV (([3, 6, 9, 10, 11, 12, 13, 33, 34, 35, 10, 9] : List Int).getD k.val 0) = true := by decide
 exact this ⟨k, h⟩
theorem immT {p op n : Int} (h : op = 13 ∨ op = 33 ∧ -4194304 ≤ n ∧ n < 4194304 ∨ op = 6 ∧ 0 ≤ n ∧ n < 8 ∨ (op = 34 ∨ op = 35) ∧ 0 ≤ n ∧ n < 4 ∨ (op ≠ 13 ∧ op ≠ 33 ∧ op ≠ 6 ∧ op ≠ 34 ∧ op ≠ 35 ∧ op ≠ 38) ∧ n = 0) : gu p op n = true := by
 unfold gu
 (repeat' split) <;> first | rfl | (apply decide_eq_true; omega) | (exfalso; omega)
theorem all_app {p : Int → Bool} {l : List Int} {x : Int} (h : l.all p = true) (hx : p x = true) : (l ++ [x]).all p = true := by rw [List.all_append, h]; simp [hx]
theorem vin_mk {params regs op a b c n : Int} {l : List Int} (z : alV op = true) (A : op = 6 ∨ l.length = 0) (E : l.length ≤ 6) (I : l.all (aM regs) = true) (J : dq (decide (aB op ≠ 1)) a regs = true) (O : dq (decide (aB op = 3 ∨ aB op = 4 ∨ aB op = 7)) b regs = true) (T : dq (decide (aB op = 4)) c regs = true) (U : gu params op n = true) : eO params regs ⟨⟨op, a, b, c, n⟩, l⟩ = true := by
 unfold eO
 simp only [z, decide_eq_true A, decide_eq_true E, I, J, O, T, U, Bool.and_self]
def ckI (v : VInT) : Bool := decide ((v.i.op = 6 → (v.i.n = 0 ∧ v.args.length = 2 ∨ v.i.n = 1 ∧ v.args.length = 1)) ∧ (v.i.op = 34 ∨ v.i.op = 35 → v.i.n < 2))
theorem dm (ex : FuncId) {b_d : Nat} (d : DigT) (m : Int) {F : Fz} {H : Heap} {R : List Fp} (hs : HS (.of H [b_d]) F H [[(b_d, .cells [(iI d.n)] none false)]] R) (A : in64 d.n) (hm : in64 m) (hT : TB 37 tabC F) (hm : 0 < m) : C Tryd.prog 1 (KT 60 ex 37 tabC) 49 [(.pointer (some ⟨b_d, 0, none⟩)), (iI m)] H fun v H' => ∃ (r : Int) (d' : DigT) (F' : Fz), Fz.le F F' ∧ HS (.of H [b_d]) F' H' [[(b_d, .cells [(iI d'.n)] none false)]] R ∧ v = .int .i64 r ∧ in64 d'.n ∧ (0 ≤ r ∧ r < m) := by
 refine aL Tryd.func49 rfl rfl ?_
 refine aw 1 rfl ?_
 refine wR 2 [] 4 4 [] [(4, (iI 0))] trivial rfl fun _ => ?_
 have E := dT d.n m
 refine wR 2 [(3, .o (iI d.n)), (5, .o (iI (ai d.n m)))] 6 11 [5] [(5, (iI (ai d.n m)))] (vA (ql 3 0 (HS.hc hs (i := 0) rfl) rfl rfl) (vA (m1.fu ex d.n m H (by omega)) trivial)) rfl fun _ => ?_
 refine ae ?_
 refine wRo 11 0 [(4, .o (iI d.n)), (6, .w)] 12 22 [] [(20, (iI (Int.tdiv (IntKind.i64.wrap (d.n - (ai d.n m))) m))), (22, (.pointer (some ⟨b_d, 0, none⟩)))] (vA (ql 3 0 (HS.hc hs (i := 0) rfl) rfl rfl) (vA (vA (show m ≠ 0 from by first | omega | exact wr64 _ | exact td64 _ (by omega)) (vq (a := IntKind.i64.wrap (d.n - (ai d.n m))) (b := m) (by first | omega | exact wr64 _ | exact td64 _ (by omega)) (by first | omega | exact wr64 _ | exact td64 _ (by omega)))) trivial)) rfl fun _ => ?_
 refine aP (aA (q := 0) hs rfl rfl rfl rfl rfl rfl rfl rfl rfl) rfl ?_
 rintro _ I _ ⟨z, _⟩
 have z : HS _ _ _ [[(b_d, .cells [(iI (Int.tdiv (IntKind.i64.wrap (d.n - (ai d.n m))) m))] none false)]] _ := z
 refine ao 2 rfl ?_
 refine wR 1 [] 4 4 [23] [(4, (iI (ai d.n m)))] trivial rfl fun _ => ?_
 refine aj ⟨.inr rfl, _, rfl, ai d.n m, (⟨Int.tdiv (IntKind.i64.wrap (d.n - (ai d.n m))) m⟩ : DigT), _, fR, (HS.first z), rfl, (by first | omega | exact wr64 _ | exact td64 _ (by omega)), (by first | assumption | omega | simp_all)⟩
theorem word_c (ex : FuncId) (n : Int) (raw : Int) {F : Fz} {H : Heap} {R : List Fp} (hs : HS (.of H []) F H [] R) (hn : in64 n) (hraw : in64 raw) (hT : TB 37 tabC F) : C Tryd.prog 1 (KT 60 ex 37 tabC) 50 [(iI n), (iI raw)] H fun v H' => ∃ (r : Int) (F' : Fz), Fz.le F F' ∧ HS (.of H []) F' H' [] R ∧ v = .int .i64 r ∧ (in64 r) := by
 refine aL Tryd.func50 rfl rfl ?_
 refine aw 1 rfl ?_
 refine wR 2 [] 4 4 [] [(4, (iI 0))] trivial rfl fun _ => ?_
 refine ae ?_
 refine bd (cN (α := Int) (ps := [(0, (iI 0)), (1, (iI 1)), (2, (iI (-1))), (3, (iI 2)), (4, (iI (-9223372036854775808))), (5, (iI 9223372036854775807)), (6, (iI 4294967296)), (7, (iI (-2147483648))), (8, (iI 63)), (9, (iI 64))]) (cells := [(iI 0), (iI 1), (iI (-1)), (iI 2), (iI (-9223372036854775808)), (iI 9223372036854775807), (iI 4294967296), (iI (-2147483648)), (iI 63), (iI 64)]) ([0, 1, (-1), 2, (-9223372036854775808), 9223372036854775807, 4294967296, (-2147483648), 63, 64] : List Int) hs rfl rfl rfl (by kernel_rfl) ⟨[(iI 0)], _, rfl, ⟨rfl, by omega⟩, ⟨[(iI 1)], _, rfl, ⟨rfl, by omega⟩, ⟨[(iI (-1))], _, rfl, ⟨rfl, by omega⟩, ⟨[(iI 2)], _, rfl, ⟨rfl, by omega⟩, ⟨[(iI (-9223372036854775808))], _, rfl, ⟨rfl, by omega⟩, ⟨[(iI 9223372036854775807)], _, rfl, ⟨rfl, by omega⟩, ⟨[(iI 4294967296)], _, rfl, ⟨rfl, by omega⟩, ⟨[(iI (-2147483648))], _, rfl, ⟨rfl, by omega⟩, ⟨[(iI 63)], _, rfl, ⟨rfl, by omega⟩, ⟨[(iI 64)], _, rfl, ⟨rfl, by omega⟩, rfl⟩⟩⟩⟩⟩⟩⟩⟩⟩⟩ rfl) rfl rfl ?_
 rintro _ O V ⟨T, k2, rfl, E, z, _⟩
 have z : HS _ _ _ [V] _ := z
 refine wa (.slice T ([0, 1, (-1), 2, (-9223372036854775808), 9223372036854775807, 4294967296, (-2147483648), 63, 64] : List Int).length k2) rfl rfl rfl ?_
 refine ao 2 rfl ?_
 have ag := dT n (24 : Int)
 refine wR 4 [(1, .o (iI (ai n (24 : Int))))] 8 9 [6] [(6, (iI (ai n (24 : Int))))] (vA (m1.fu ex n (24) O (by omega)) trivial) rfl fun _ => ?_
 refine wR 1 [] 10 12 [] [(10, (.bool (decide (ai n (24 : Int) < 10))))] trivial rfl fun _ => ?_
 refine am 1 1 (v := (decide (ai n (24 : Int) < 10))) rfl rfl rfl rfl (fun J => ?_) (fun J => ?_)
 ·
  try simp only [BS] at J
  obtain ⟨ad, I⟩ := Sv.view (OS.sv E z (i := 0) rfl)
  have g9 := fI (I (ai n (24 : Int)).toNat)
  refine wR 1 [(3, .o (iI (([0, 1, (-1), 2, (-9223372036854775808), 9223372036854775807, 4294967296, (-2147483648), 63, 64] : List Int).getD (ai n (24 : Int)).toNat 0)))] 13 16 [4] [(4, (iI (([0, 1, (-1), 2, (-9223372036854775808), 9223372036854775807, 4294967296, (-2147483648), 63, 64] : List Int).getD (ai n (24 : Int)).toNat 0)))] (vA (Sv.ix (j := ai n (24 : Int)) (OS.sv E z (i := 0) rfl) (by omega) (show ai n (24 : Int) < (10 : Int) from by omega)) (vA (ql 2 0 (vI (I (ai n (24 : Int)).toNat) (show (ai n (24 : Int)).toNat < 10 from by omega)) rfl rfl) trivial)) rfl fun _ => ?_
  refine aj ⟨.inr rfl, _, rfl, (([0, 1, (-1), 2, (-9223372036854775808), 9223372036854775807, 4294967296, (-2147483648), 63, 64] : List Int).getD (ai n (24 : Int)).toNat 0), _, fR, (HS.forget z), rfl, (by omega)⟩
 ·
  try simp only [BS] at J
  refine wR 1 [] 17 19 [] [(17, (.bool (decide (ai n (24 : Int) < 22))))] trivial rfl fun _ => ?_
  refine am 1 3 (v := (decide (ai n (24 : Int) < 22))) rfl rfl rfl rfl (fun A => ?_) (fun A => ?_)
  ·
   try simp only [BS] at A
   have Z : in64 n → in64 (Int.tdiv n 24) := fun h => vq h (by decide)
   have U := dT (Int.tdiv n 24) (17 : Int)
   refine wR 1 [(2, .o (iI (ai (Int.tdiv n 24) (17 : Int))))] 20 23 [4] [(4, (iI ((ai (Int.tdiv n 24) (17 : Int)) - 6)))] (vA (vA (show (24 : Int) ≠ 0 from by decide) (vq (a := n) (b := 24) (by omega) (by decide))) (vA (m1.fu ex (Int.tdiv n 24) (17) O (by omega)) (vA (vi (n := (ai (Int.tdiv n 24) (17 : Int)) - 6) (by omega)) trivial))) rfl fun _ => ?_
   refine aj ⟨.inr rfl, _, rfl, (ai (Int.tdiv n 24) (17 : Int)) - 6, _, fR, (HS.forget z), rfl, (by omega)⟩
  ·
   try simp only [BS] at A
   refine wR 1 [] 4 4 [24] [(4, (iI raw))] trivial rfl fun _ => ?_
   refine aj ⟨.inr rfl, _, rfl, raw, _, fR, (HS.forget z), rfl, (by omega)⟩
set_option maxHeartbeats 1000000 in
theorem vi_c (ex : FuncId) (n : Int) {e9 : Option Addr} {hN : Nat} (c : VFnT) {F : Fz} {H : Heap} {R : List Fp} (hs : HS (.of H []) F H [] R) (hn : in64 n) (lQ : in64 c.params) (lR : in64 c.regs) (hT : TB 37 tabC F) (hr : 1 ≤ c.regs ∧ c.regs ≤ 3000) : C Tryd.prog 1 (KT 60 ex 37 tabC) 44 [(iI n), (.agg ⟨[(iI c.params), (iI c.regs), (.slice e9 c.blocks.length hN)]⟩)] H fun v H' => ∃ (x : VInT) (fd : Option Addr) (hP : Nat) (F' : Fz), Fz.le F F' ∧ HS (.of H []) F' H' [] R ∧ v = .agg ⟨[.int .i64 x.i.op, .int .i64 x.i.a, .int .i64 x.i.b, .int .i64 x.i.c, .int .i64 x.i.n, .slice fd x.args.length hP]⟩ ∧ in64 x.i.op ∧ in64 x.i.a ∧ in64 x.i.b ∧ in64 x.i.c ∧ in64 x.i.n ∧ SR F' (.slice fd x.args.length hP) x.args ∧ (eO c.params c.regs x = true) ∧ (ckI x = true) := by
 refine aL Tryd.func44 rfl rfl ?_
 refine aw 1 rfl ?_
 refine ae ?_
 refine bd (cz hs rfl rfl) rfl rfl ?_
 rintro _ H2 _ ⟨b1, rfl, c7, _⟩
 let cd : Fp := [(b1, .cells [(iI c.params), (iI c.regs), (.slice e9 c.blocks.length hN)] none false)]
 have c7 : HS _ _ _ [cd] _ := c7
 refine bd (bK c7 rfl) rfl rfl ?_
 rintro _ H4 _ ⟨b3, rfl, hC, _⟩
 let ch : Fp := [(b3, .cells [(iI 0), (iI 0), (iI 0), (iI 0), (iI 0), (.slice none 0 0)] none false)]
 have hC : HS _ _ _ [_, ch] _ := hC
 refine ao 2 rfl ?_
 refine ae ?_
 refine wRo 2 0 [] 14 15 [] [(15, (.agg ⟨[(iI n)]⟩))] trivial rfl fun _ => ?_
 refine bd (cz hC rfl rfl) rfl rfl ?_
 rintro _ H7 _ ⟨E, rfl, hE, _⟩
 have hE : HS _ _ _ [_, _, [(E, .cells [(iI n)] none false)]] _ := hE
 refine wa (.pointer (some ⟨E, 0, none⟩)) rfl rfl rfl ?_
 refine ao 2 rfl ?_
 refine ae ?_
 refine bd (cN (α := Int) (ps := [(0, (iI 3)), (1, (iI 6)), (2, (iI 9)), (3, (iI 10)), (4, (iI 11)), (5, (iI 12)), (6, (iI 13)), (7, (iI 33)), (8, (iI 34)), (9, (iI 35)), (10, (iI 10)), (11, (iI 9))]) (cells := [(iI 3), (iI 6), (iI 9), (iI 10), (iI 11), (iI 12), (iI 13), (iI 33), (iI 34), (iI 35), (iI 10), (iI 9)]) ([3, 6, 9, 10, 11, 12, 13, 33, 34, 35, 10, 9] : List Int) hE rfl rfl rfl (by kernel_rfl) ⟨[(iI 3)], _, rfl, ⟨rfl, by omega⟩, ⟨[(iI 6)], _, rfl, ⟨rfl, by omega⟩, ⟨[(iI 9)], _, rfl, ⟨rfl, by omega⟩, ⟨[(iI 10)], _, rfl, ⟨rfl, by omega⟩, ⟨[(iI 11)], _, rfl, ⟨rfl, by omega⟩, ⟨[(iI 12)], _, rfl, ⟨rfl, by omega⟩, ⟨[(iI 13)], _, rfl, ⟨rfl, by omega⟩, ⟨[(iI 33)], _, rfl, ⟨rfl, by omega⟩, ⟨[(iI 34)], _, rfl, ⟨rfl, by omega⟩, ⟨[(iI 35)], _, rfl, ⟨rfl, by omega⟩, ⟨[(iI 10)], _, rfl, ⟨rfl, by omega⟩, ⟨[(iI 9)], _, rfl, ⟨rfl, by omega⟩, rfl⟩⟩⟩⟩⟩⟩⟩⟩⟩⟩⟩⟩ rfl) rfl rfl ?_
 rintro _ H9 p8 ⟨a8, k8, rfl, e1, e2, _⟩
 have e2 : HS _ _ _ [_, _, _, p8] _ := e2
 refine wa (.slice a8 ([3, 6, 9, 10, 11, 12, 13, 33, 34, 35, 10, 9] : List Int).length k8) rfl rfl rfl ?_
 refine ao 2 rfl ?_
 refine ae ?_
 refine wm (.pointer (some ⟨E, 0, none⟩)) rfl rfl rfl ?_
 refine aF (ax rfl rfl rfl) rfl rfl (dm ex (⟨n⟩ : DigT) (18) (HS.callOwn e2 (i := 2) rfl) (by omega) (by omega) hT (by omega)) ?_
 rintro _ ma ⟨hR, g4, l0, dn, a3, rfl, lx, mO⟩
 replace a3 := HS.backOwn e2 (i := 2) rfl rfl (fun _ hb => hb) a3
 have a3 : HS _ _ _ [_, _, [(E, .cells [(iI g4.n)] none false)], _] _ := a3
 replace hT := hT.mono dn
 refine wRo 2 2 [] 20 20 [7] [(7, (iI (15 + hR)))] (vA (vi (n := 15 + hR) (by omega)) trivial) rfl fun _ => ?_
 refine ao 3 rfl ?_
 refine ae ?_
 refine wm (.pointer (some ⟨E, 0, none⟩)) rfl rfl rfl ?_
 refine aF (ax rfl rfl rfl) rfl rfl (dm ex (⟨g4.n⟩ : DigT) (24) (HS.callOwn a3 (i := 2) rfl) (by omega) (by omega) hT (by omega)) ?_
 rintro _ h3 ⟨ap, dk, l1, ds, ar, rfl, ly, mP⟩
 replace ar := HS.backOwn a3 (i := 2) rfl rfl (fun _ hb => hb) ar
 have ar : HS _ _ _ [_, _, [(E, .cells [(iI dk.n)] none false)], _] _ := ar
 replace hT := hT.mono ds
 replace e1 := (e1.mono dn).mono ds
 refine wa (iI ap) rfl rfl rfl ?_
 refine ao 2 rfl ?_
 refine wR 1 [] 23 26 [] [(26, (.bool (decide (ap < 12))))] trivial rfl fun _ => ?_
 refine d3 (fun f H' => ∃ (z : Int), H' = h3 ∧ aZ f [(0, (iI n)), (3, (.pointer (some ⟨b1, 0, none⟩))), (4, (.pointer (some ⟨b3, 0, none⟩))), (5, (.pointer (some ⟨E, 0, none⟩))), (7, (iI z))] ∧ (opG z)) (fun hG => ?_) ?_
 ·
  refine am 0 0 (v := (decide (ap < 12))) rfl rfl rfl rfl (fun fi => ?_) (fun fi => ?_)
  ·
   try simp only [BS] at fi
   obtain ⟨lP, hF⟩ := Sv.view (OS.sv e1 ar (i := 3) rfl)
   have mN := fI (hF ap.toNat)
   refine wR 0 [(3, .o (iI (([3, 6, 9, 10, 11, 12, 13, 33, 34, 35, 10, 9] : List Int).getD ap.toNat 0)))] 27 30 [7] [(7, (iI (([3, 6, 9, 10, 11, 12, 13, 33, 34, 35, 10, 9] : List Int).getD ap.toNat 0)))] (vA (Sv.ix (j := ap) (OS.sv e1 ar (i := 3) rfl) (by omega) (show ap < (12 : Int) from by first | omega | (dsimp only; omega))) (vA (ql 3 0 (vI (hF ap.toNat) (show ap.toNat < 12 from by first | omega | (dsimp only; omega))) rfl rfl) trivial)) rfl fun _ => ?_
   exact hG _ _ ⟨(([3, 6, 9, 10, 11, 12, 13, 33, 34, 35, 10, 9] : List Int).getD ap.toNat 0), rfl, (agC rfl (agC rfl (agC rfl (agC rfl (agC rfl agN))))), (by first | exact lit12 (by omega) | exact ops_al (by omega))⟩
  ·
   try simp only [BS] at fi
   exact hG _ _ ⟨15 + hR, rfl, (agC rfl (agC rfl (agC rfl (agC rfl (agC rfl agN))))), (by first | exact lit12 (by omega) | exact ops_al (by omega))⟩
 ·
  rintro mH h3 ⟨z, rfl, hv, ho⟩
  refine aN _ hv (fun _ => ?_)
  clear hv
  have hf := aH ho.2
  have hvf : aB z = (bn z).form := if_neg (by have := ho.1; omega)
  have m0 := ho.1
  refine aw 2 rfl ?_
  refine ae ?_
  refine wRo 3 0 [] 31 33 [] [(33, (.agg ⟨[(iI z), (iI 0), (iI 0), (iI 0), (iI 0), (.slice none 0 0)]⟩))] trivial rfl fun _ => ?_
  refine bd (bK ar rfl) rfl rfl ?_
  rintro _ mb _ ⟨A, rfl, dv, _⟩
  have dv : HS _ _ _ [_, _, _, _, [(A, .cells [(iI 0), (iI 0), (iI 0), (iI 0), (iI 0), (.slice none 0 0)] none false)]] _ := dv
  refine aP (aA (q := 4) dv rfl rfl rfl rfl rfl rfl rfl rfl rfl) rfl ?_
  rintro _ mc _ ⟨co, _⟩
  have co : HS _ _ _ [_, _, _, _, [(A, .cells [(iI z), (iI 0), (iI 0), (iI 0), (iI 0), (.slice none 0 0)] none false)]] _ := co
  refine ao 2 rfl ?_
  refine ae ?_
  refine wm (iI z) rfl rfl rfl ?_
  refine aF (ax rfl rfl rfl) rfl rfl (m1.rInfo_c ex z (HS.call co) (by omega) hT) ?_
  rintro _ md ⟨ne, na, k7, hk, a7, rfl, k5, k6, rfl, rfl⟩
  replace a7 := HS.back co rfl a7
  have a7 : HS _ _ _ [_, _, _, _, _] _ := a7
  replace hT := hT.mono hk
  refine wRo 3 2 [] 37 38 [34] [(37, (.agg ⟨[(.string ⟨⟨(bn z).name.b⟩⟩), (iI (bn z).form), (.bool (bn z).ra), (.bool (bn z).wa), (.bool (bn z).rb), (.bool (bn z).mt), (iI (bn z).words)]⟩)), (38, (.bool (infO z)))] trivial rfl fun _ => ?_
  refine bd (bK a7 rfl) rfl rfl ?_
  rintro _ me _ ⟨h4, rfl, d1, _⟩
  have d1 : HS _ _ _ [_, _, _, _, _, [(h4, .cells [(.string ⟨⟨[]⟩⟩), (iI 0), (.bool false), (.bool false), (.bool false), (.bool false), (iI 0)] none false)]] _ := d1
  refine aP (aA (q := 5) d1 rfl rfl rfl rfl rfl rfl rfl rfl rfl) rfl ?_
  rintro _ mf _ ⟨av, _⟩
  let ci : Fp := [(h4, .cells [(.string ⟨⟨(bn z).name.b⟩⟩), (iI (bn z).form), (.bool (bn z).ra), (.bool (bn z).wa), (.bool (bn z).rb), (.bool (bn z).mt), (iI (bn z).words)] none false)]
  have av : HS _ _ _ [_, _, _, _, _, ci] _ := av
  refine wa (.bool (infO z)) rfl rfl rfl ?_
  refine ao 2 rfl ?_
  refine wR 3 [(1, .o (iI (bn z).form))] 39 40 [12] [(12, (iI (bn z).form))] (vA (ql 3 1 (HS.hc av (i := 5) rfl) rfl rfl) trivial) rfl fun _ => ?_
  refine wR 1 [] 41 42 [] [(42, (.bool ((bn z).form != 1)))] trivial rfl fun _ => ?_
  refine d3 (fun f H' => ∃ (ja : Int) (c8 : DigT) (F' : Fz), Fz.le k7 F' ∧ HS (Base.of H []) F' H' [cd, ch, [(E, .cells [(iI c8.n)] none false)], p8, [(A, .cells [(iI z), (iI ja), (iI 0), (iI 0), (iI 0), (.slice none 0 0)] none false)], ci] R ∧ aZ f [(0, (iI n)), (3, (.pointer (some ⟨b1, 0, none⟩))), (4, (.pointer (some ⟨b3, 0, none⟩))), (5, (.pointer (some ⟨E, 0, none⟩))), (7, (iI z)), (9, (.pointer (some ⟨A, 0, none⟩))), (12, (iI (bn z).form))] ∧ (dq (decide (aB z ≠ 1)) ja c.regs = true) ∧ (in64 ja) ∧ (in64 c8.n)) (fun hH => ?_) ?_
  ·
   refine am 0 0 (v := ((bn z).form != 1)) rfl rfl rfl rfl (fun f1 => ?_) (fun f1 => ?_)
   ·
    try simp only [BS] at f1
    refine ae ?_
    refine wRo 3 0 [(2, .o (iI c.regs))] 43 45 [] [(43, (.pointer (some ⟨E, 0, none⟩))), (45, (iI c.regs))] (vA (ql 3 1 (HS.hc av (i := 0) rfl) rfl rfl) trivial) rfl fun _ => ?_
    refine aF (ax rfl rfl rfl) rfl rfl (dm ex (⟨dk.n⟩ : DigT) c.regs (HS.callOwn av (i := 2) rfl) (by omega) (by omega) hT (by omega)) ?_
    rintro _ mh ⟨h6, g5, l2, iv, a9, rfl, lz, mQ⟩
    replace a9 := HS.backOwn av (i := 2) rfl rfl (fun _ hb => hb) a9
    have a9 : HS _ _ _ [_, _, [(E, .cells [(iI g5.n)] none false)], _, _, _] _ := a9
    refine wRo 2 4 [] 47 48 [] [(48, (.pointer (some ⟨A, 1, none⟩)))] trivial rfl fun _ => ?_
    refine aP (aA (q := 4) a9 rfl rfl rfl rfl rfl rfl rfl rfl rfl) rfl ?_
    rintro _ mi _ ⟨d2, _⟩
    have d2 : HS _ _ _ [_, _, _, _, [(A, .cells [(iI z), (iI h6), (iI 0), (iI 0), (iI 0), (.slice none 0 0)] none false)], _] _ := d2
    refine ao 0 rfl ?_
    exact hH _ _ ⟨h6, (⟨g5.n⟩ : DigT), _, (iv), d2, (agC rfl (agC rfl (agC rfl (agC rfl (agC rfl (agC rfl (agC rfl agN))))))), (by first | exact hU (by omega) (by omega) | exact fG (by omega) rfl), (by first | assumption | omega | (simp at *; omega)), (by first | assumption | omega | (simp at *; omega))⟩
   ·
    try simp only [BS] at f1
    exact hH _ _ ⟨0, (⟨dk.n⟩ : DigT), _, fR, av, (agC rfl (agC rfl (agC rfl (agC rfl (agC rfl (agC rfl (agC rfl agN))))))), (by first | exact hU (by omega) (by omega) | exact fG (by omega) rfl), (by first | assumption | omega | (simp at *; omega)), (by first | assumption | omega | (simp at *; omega))⟩
  ·
   rintro mI mg ⟨ja, c8, k9, hl, cv, hw, hja, rja, lW⟩
   refine aN _ hw (fun _ => ?_)
   clear hw
   replace hT := hT.mono hl
   refine aw 3 rfl ?_
   refine wR 1 [] 49 58 [] [(58, (.bool ((((bn z).form == 3) || ((bn z).form == 4)) || ((bn z).form == 7))))] trivial rfl fun _ => ?_
   refine d3 (fun f H' => ∃ (jb : Int) (c9 : DigT) (F' : Fz), Fz.le k9 F' ∧ HS (Base.of H []) F' H' [cd, ch, [(E, .cells [(iI c9.n)] none false)], p8, [(A, .cells [(iI z), (iI ja), (iI jb), (iI 0), (iI 0), (.slice none 0 0)] none false)], ci] R ∧ aZ f [(0, (iI n)), (3, (.pointer (some ⟨b1, 0, none⟩))), (4, (.pointer (some ⟨b3, 0, none⟩))), (5, (.pointer (some ⟨E, 0, none⟩))), (7, (iI z)), (9, (.pointer (some ⟨A, 0, none⟩))), (12, (iI (bn z).form))] ∧ (dq (decide (aB z = 3 ∨ aB z = 4 ∨ aB z = 7)) jb c.regs = true) ∧ (in64 jb) ∧ (in64 c9.n)) (fun hI => ?_) ?_
   ·
    refine am 0 0 (v := ((((bn z).form == 3) || ((bn z).form == 4)) || ((bn z).form == 7))) rfl rfl rfl rfl (fun f2 => ?_) (fun f2 => ?_)
    ·
     try simp only [BS] at f2
     refine ae ?_
     refine wRo 3 0 [(2, .o (iI c.regs))] 59 61 [] [(59, (.pointer (some ⟨E, 0, none⟩))), (61, (iI c.regs))] (vA (ql 3 1 (HS.hc cv (i := 0) rfl) rfl rfl) trivial) rfl fun _ => ?_
     refine aF (ax rfl rfl rfl) rfl rfl (dm ex (⟨c8.n⟩ : DigT) c.regs (HS.callOwn cv (i := 2) rfl) (by omega) (by omega) hT (by omega)) ?_
     rintro _ ml ⟨h7, g6, l3, i1, bb, rfl, lA, mR⟩
     replace bb := HS.backOwn cv (i := 2) rfl rfl (fun _ hb => hb) bb
     have bb : HS _ _ _ [_, _, [(E, .cells [(iI g6.n)] none false)], _, [(A, .cells [(iI z), (iI ja), (iI 0), (iI 0), (iI 0), (.slice none 0 0)] none false)], _] _ := bb
     refine wRo 2 4 [] 63 64 [] [(64, (.pointer (some ⟨A, 2, none⟩)))] trivial rfl fun _ => ?_
     refine aP (aA (q := 4) bb rfl rfl rfl rfl rfl rfl rfl rfl rfl) rfl ?_
     rintro _ mn _ ⟨ea, _⟩
     have ea : HS _ _ _ [_, _, _, _, [(A, .cells [(iI z), (iI ja), (iI h7), (iI 0), (iI 0), (.slice none 0 0)] none false)], _] _ := ea
     refine ao 0 rfl ?_
     exact hI _ _ ⟨h7, (⟨g6.n⟩ : DigT), _, (i1), ea, (agC rfl (agC rfl (agC rfl (agC rfl (agC rfl (agC rfl (agC rfl agN))))))), (by first | exact hU (by omega) (by omega) | exact fG (by omega) rfl), (by first | assumption | omega | (simp at *; omega)), (by first | assumption | omega | (simp at *; omega))⟩
    ·
     try simp only [BS] at f2
     exact hI _ _ ⟨0, (⟨c8.n⟩ : DigT), _, fR, cv, (agC rfl (agC rfl (agC rfl (agC rfl (agC rfl (agC rfl (agC rfl agN))))))), (by first | exact hU (by omega) (by omega) | exact fG (by omega) rfl), (by first | assumption | omega | (simp at *; omega)), (by first | assumption | omega | (simp at *; omega))⟩
   ·
    rintro mJ mj ⟨jb, c9, la, hm, c0, hx, hjb, rjb, lX⟩
    refine aN _ hx (fun _ => ?_)
    clear hx
    replace hT := hT.mono hm
    refine aw 3 rfl ?_
    refine wR 1 [] 65 66 [] [(66, (.bool ((bn z).form == 4)))] trivial rfl fun _ => ?_
    refine d3 (fun f H' => ∃ (jc : Int) (a2 : DigT) (F' : Fz), Fz.le la F' ∧ HS (Base.of H []) F' H' [cd, ch, [(E, .cells [(iI a2.n)] none false)], p8, [(A, .cells [(iI z), (iI ja), (iI jb), (iI jc), (iI 0), (.slice none 0 0)] none false)], ci] R ∧ aZ f [(0, (iI n)), (3, (.pointer (some ⟨b1, 0, none⟩))), (4, (.pointer (some ⟨b3, 0, none⟩))), (5, (.pointer (some ⟨E, 0, none⟩))), (7, (iI z)), (9, (.pointer (some ⟨A, 0, none⟩)))] ∧ (dq (decide (aB z = 4)) jc c.regs = true) ∧ (in64 jc) ∧ (in64 a2.n)) (fun hK => ?_) ?_
    ·
     refine am 0 0 (v := ((bn z).form == 4)) rfl rfl rfl rfl (fun f6 => ?_) (fun f6 => ?_)
     ·
      try simp only [BS] at f6
      refine ae ?_
      refine wRo 3 0 [(2, .o (iI c.regs))] 67 69 [] [(67, (.pointer (some ⟨E, 0, none⟩))), (69, (iI c.regs))] (vA (ql 3 1 (HS.hc c0 (i := 0) rfl) rfl rfl) trivial) rfl fun _ => ?_
      refine aF (ax rfl rfl rfl) rfl rfl (dm ex (⟨c9.n⟩ : DigT) c.regs (HS.callOwn c0 (i := 2) rfl) (by omega) (by omega) hT (by omega)) ?_
      rintro _ mp ⟨h8, g7, l4, i2, bl, rfl, lB, mS⟩
      replace bl := HS.backOwn c0 (i := 2) rfl rfl (fun _ hb => hb) bl
      have bl : HS _ _ _ [_, _, [(E, .cells [(iI g7.n)] none false)], _, [(A, .cells [(iI z), (iI ja), (iI jb), (iI 0), (iI 0), (.slice none 0 0)] none false)], _] _ := bl
      refine wRo 2 4 [] 71 72 [] [(72, (.pointer (some ⟨A, 3, none⟩)))] trivial rfl fun _ => ?_
      refine aP (aA (q := 4) bl rfl rfl rfl rfl rfl rfl rfl rfl rfl) rfl ?_
      rintro _ mq _ ⟨eb, _⟩
      have eb : HS _ _ _ [_, _, _, _, [(A, .cells [(iI z), (iI ja), (iI jb), (iI h8), (iI 0), (.slice none 0 0)] none false)], _] _ := eb
      refine ao 0 rfl ?_
      exact hK _ _ ⟨h8, (⟨g7.n⟩ : DigT), _, (i2), eb, (agC rfl (agC rfl (agC rfl (agC rfl (agC rfl (agC rfl agN)))))), (by first | exact hU (by omega) (by omega) | exact fG (by omega) rfl), (by first | assumption | omega | (simp at *; omega)), (by first | assumption | omega | (simp at *; omega))⟩
     ·
      try simp only [BS] at f6
      exact hK _ _ ⟨0, (⟨c9.n⟩ : DigT), _, fR, c0, (agC rfl (agC rfl (agC rfl (agC rfl (agC rfl (agC rfl agN)))))), (by first | exact hU (by omega) (by omega) | exact fG (by omega) rfl), (by first | assumption | omega | (simp at *; omega)), (by first | assumption | omega | (simp at *; omega))⟩
    ·
     rintro mK mo ⟨jc, a2, h1, hp, V, hy, hjc, rjc, lY⟩
     refine aN _ hy (fun _ => ?_)
     clear hy
     replace hT := hT.mono hp
     refine aw 3 rfl ?_
     refine wR 3 [] 73 73 [] [(73, (iI z))] trivial rfl fun _ => ?_
     refine wR 1 [] 74 75 [] [(74, (.bool (z == 13)))] trivial rfl fun _ => ?_
     refine d3 (fun f H' => ∃ (jq : Int) (asl : List Int) (e3 : DigT) (I : Option Addr) (O : Nat) (F' : Fz), Fz.le h1 F' ∧ HS (Base.of H []) F' H' [cd, ch, [(E, .cells [(iI e3.n)] none false)], p8, [(A, .cells [(iI z), (iI ja), (iI jb), (iI jc), (iI jq), (.slice I asl.length O)] none false)], ci] R ∧ SR F' (.slice I asl.length O) asl ∧ aZ f [(4, (.pointer (some ⟨b3, 0, none⟩))), (9, (.pointer (some ⟨A, 0, none⟩)))] ∧ (gu c.params z jq = true) ∧ (in64 jq) ∧ ((z = 6 ∨ asl.length = 0) ∧ asl.length ≤ 6) ∧ (asl.all (aM c.regs) = true) ∧ ((z = 6 → (jq = 0 ∧ asl.length = 2 ∨ jq = 1 ∧ asl.length = 1)) ∧ (z = 34 ∨ z = 35 → jq < 2)) ∧ (in64 e3.n)) (fun a6 => ?_) ?_
     ·
      refine am 0 1 (v := (z == 13)) rfl rfl rfl rfl (fun f7 => ?_) (fun f7 => ?_)
      ·
       try simp only [BS] at f7
       refine ae ?_
       refine wm (.pointer (some ⟨E, 0, none⟩)) rfl rfl rfl ?_
       refine aF (ax rfl rfl rfl) rfl rfl (dm ex (⟨a2.n⟩ : DigT) (400) (HS.callOwn V (i := 2) rfl) (by omega) (by omega) hT (by omega)) ?_
       rintro _ ms ⟨lJ, g9, l6, hq, a4, rfl, lC, mT⟩
       replace a4 := HS.backOwn V (i := 2) rfl rfl (fun _ hb => hb) a4
       have a4 : HS _ _ _ [_, _, [(E, .cells [(iI g9.n)] none false)], _, [(A, .cells [(iI z), (iI ja), (iI jb), (iI jc), (iI 0), (.slice none 0 0)] none false)], _] _ := a4
       replace hT := hT.mono hq
       refine wm (iI n) rfl rfl rfl ?_
       refine aF (ax rfl rfl rfl) rfl rfl (word_c ex lJ n (HS.call a4) (by omega) (by omega) hT) ?_
       rintro _ mu ⟨h9, li, j2, b0, rfl, mU⟩
       replace b0 := HS.back a4 rfl b0
       have b0 : HS _ _ _ [_, _, _, _, _, _] _ := b0
       refine wRo 2 4 [] 80 81 [] [(81, (.pointer (some ⟨A, 4, none⟩)))] trivial rfl fun _ => ?_
       refine aP (aA (q := 4) b0 rfl rfl rfl rfl rfl rfl rfl rfl rfl) rfl ?_
       rintro _ mv _ ⟨ec, _⟩
       have ec : HS _ _ _ [_, _, _, _, [(A, .cells [(iI z), (iI ja), (iI jb), (iI jc), (iI h9), (.slice none 0 0)] none false)], _] _ := ec
       refine ao 0 rfl ?_
       exact a6 _ _ ⟨h9, ([] : List Int), (⟨g9.n⟩ : DigT), none, 0, _, (fT (hq) j2), ec, (SR.nil : SR li (.slice none 0 0) ([] : List Int)), (agC rfl (agC rfl agN)), (by exact immT (by omega)), (by first | assumption | omega | (simp at *; omega)), (by first | omega | (simp <;> omega)), (by first | assumption | rfl), (by first | omega | (simp <;> omega)), (by first | assumption | omega | (simp at *; omega))⟩
      ·
       try simp only [BS] at f7
       refine wR 1 [] 82 83 [] [(82, (.bool (z == 33)))] trivial rfl fun _ => ?_
       refine am 0 2 (v := (z == 33)) rfl rfl rfl rfl (fun f9 => ?_) (fun f9 => ?_)
       ·
        try simp only [BS] at f9
        refine ae ?_
        refine wm (.pointer (some ⟨E, 0, none⟩)) rfl rfl rfl ?_
        refine aF (ax rfl rfl rfl) rfl rfl (dm ex (⟨a2.n⟩ : DigT) (9) (HS.callOwn V (i := 2) rfl) (by omega) (by omega) hT (by omega)) ?_
        rintro _ mw ⟨e4, ha, lm, kd, b2, rfl, lD, mV⟩
        replace b2 := HS.backOwn V (i := 2) rfl rfl (fun _ hb => hb) b2
        have b2 : HS _ _ _ [_, _, [(E, .cells [(iI ha.n)] none false)], _, [(A, .cells [(iI z), (iI ja), (iI jb), (iI jc), (iI 0), (.slice none 0 0)] none false)], _] _ := b2
        refine wRo 3 2 [] 86 88 [] [(86, (iI (e4 - 4))), (88, (.pointer (some ⟨A, 4, none⟩)))] (vA (vi (n := e4 - 4) (by omega)) trivial) rfl fun _ => ?_
        refine aP (aA (q := 4) b2 rfl rfl rfl rfl rfl rfl rfl rfl rfl) rfl ?_
        rintro _ mx _ ⟨em, _⟩
        have em : HS _ _ _ [_, _, _, _, [(A, .cells [(iI z), (iI ja), (iI jb), (iI jc), (iI (e4 - 4)), (.slice none 0 0)] none false)], _] _ := em
        refine ao 0 rfl ?_
        exact a6 _ _ ⟨e4 - 4, ([] : List Int), (⟨ha.n⟩ : DigT), none, 0, _, (kd), em, (SR.nil : SR lm (.slice none 0 0) ([] : List Int)), (agC rfl (agC rfl agN)), (by exact immT (by omega)), (by first | assumption | omega | (simp at *; omega)), (by first | omega | (simp <;> omega)), (by first | assumption | rfl), (by first | omega | (simp <;> omega)), (by first | assumption | omega | (simp at *; omega))⟩
       ·
        try simp only [BS] at f9
        refine wR 1 [] 89 90 [] [(89, (.bool (z == 34)))] trivial rfl fun _ => ?_
        refine am 1 0 (v := (z == 34)) rfl rfl rfl rfl (fun cl => ?_) (fun cl => ?_)
        ·
         have gn := cl
         try simp only [BS] at gn
         refine be 0 (v := (z == 34)) rfl cl rfl rfl ?_
         refine ae ?_
         refine wm (.pointer (some ⟨E, 0, none⟩)) rfl rfl rfl ?_
         refine aF (ax rfl rfl rfl) rfl rfl (dm ex (⟨a2.n⟩ : DigT) (2) (HS.callOwn V (i := 2) rfl) (by omega) (by omega) hT (by omega)) ?_
         rintro _ my ⟨ih, he, ln, ki, b4, rfl, lE, mW⟩
         replace b4 := HS.backOwn V (i := 2) rfl rfl (fun _ hb => hb) b4
         have b4 : HS _ _ _ [_, _, [(E, .cells [(iI he.n)] none false)], _, [(A, .cells [(iI z), (iI ja), (iI jb), (iI jc), (iI 0), (.slice none 0 0)] none false)], _] _ := b4
         refine wRo 2 2 [] 94 95 [] [(95, (.pointer (some ⟨A, 4, none⟩)))] trivial rfl fun _ => ?_
         refine aP (aA (q := 4) b4 rfl rfl rfl rfl rfl rfl rfl rfl rfl) rfl ?_
         rintro _ mz _ ⟨es, _⟩
         have es : HS _ _ _ [_, _, _, _, [(A, .cells [(iI z), (iI ja), (iI jb), (iI jc), (iI ih), (.slice none 0 0)] none false)], _] _ := es
         refine ao 0 rfl ?_
         exact a6 _ _ ⟨ih, ([] : List Int), (⟨he.n⟩ : DigT), none, 0, _, (ki), es, (SR.nil : SR ln (.slice none 0 0) ([] : List Int)), (agC rfl (agC rfl agN)), (by exact immT (by omega)), (by first | assumption | omega | (simp at *; omega)), (by first | omega | (simp <;> omega)), (by first | assumption | rfl), (by first | omega | (simp <;> omega)), (by first | assumption | omega | (simp at *; omega))⟩
        ·
         have gn := cl
         try simp only [BS] at gn
         refine wR 1 [] 89 91 [] [(89, (.bool (z == 35)))] trivial rfl fun _ => ?_
         refine am 0 1 (v := (z == 35)) rfl rfl rfl rfl (fun g1 => ?_) (fun g1 => ?_)
         ·
          try simp only [BS] at g1
          refine ae ?_
          refine wm (.pointer (some ⟨E, 0, none⟩)) rfl rfl rfl ?_
          refine aF (ax rfl rfl rfl) rfl rfl (dm ex (⟨a2.n⟩ : DigT) (2) (HS.callOwn V (i := 2) rfl) (by omega) (by omega) hT (by omega)) ?_
          rintro _ mA ⟨ik, hg, lp, kl, b5, rfl, lF, mX⟩
          replace b5 := HS.backOwn V (i := 2) rfl rfl (fun _ hb => hb) b5
          have b5 : HS _ _ _ [_, _, [(E, .cells [(iI hg.n)] none false)], _, [(A, .cells [(iI z), (iI ja), (iI jb), (iI jc), (iI 0), (.slice none 0 0)] none false)], _] _ := b5
          refine wRo 2 2 [] 94 95 [] [(95, (.pointer (some ⟨A, 4, none⟩)))] trivial rfl fun _ => ?_
          refine aP (aA (q := 4) b5 rfl rfl rfl rfl rfl rfl rfl rfl rfl) rfl ?_
          rintro _ mB _ ⟨et, _⟩
          have et : HS _ _ _ [_, _, _, _, [(A, .cells [(iI z), (iI ja), (iI jb), (iI jc), (iI ik), (.slice none 0 0)] none false)], _] _ := et
          refine ao 0 rfl ?_
          exact a6 _ _ ⟨ik, ([] : List Int), (⟨hg.n⟩ : DigT), none, 0, _, (kl), et, (SR.nil : SR lp (.slice none 0 0) ([] : List Int)), (agC rfl (agC rfl agN)), (by exact immT (by omega)), (by first | assumption | omega | (simp at *; omega)), (by first | omega | (simp <;> omega)), (by first | assumption | rfl), (by first | omega | (simp <;> omega)), (by first | assumption | omega | (simp at *; omega))⟩
         ·
          try simp only [BS] at g1
          refine wR 1 [] 96 97 [] [(96, (.bool (z == 6)))] trivial rfl fun _ => ?_
          refine am 1 0 (v := (z == 6)) rfl rfl rfl rfl (fun g2 => ?_) (fun g2 => ?_)
          ·
           try simp only [BS] at g2
           refine ae ?_
           refine wm (.pointer (some ⟨E, 0, none⟩)) rfl rfl rfl ?_
           refine aF (ax rfl rfl rfl) rfl rfl (dm ex (⟨a2.n⟩ : DigT) (2) (HS.callOwn V (i := 2) rfl) (by omega) (by omega) hT (by omega)) ?_
           rintro _ mC ⟨aq, hh, h2, ht, b7, rfl, lG, mY⟩
           replace b7 := HS.backOwn V (i := 2) rfl rfl (fun _ hb => hb) b7
           have b7 : HS _ _ _ [_, _, [(E, .cells [(iI hh.n)] none false)], _, [(A, .cells [(iI z), (iI ja), (iI jb), (iI jc), (iI 0), (.slice none 0 0)] none false)], _] _ := b7
           refine wRo 2 2 [] 100 101 [] [(101, (.pointer (some ⟨A, 4, none⟩)))] trivial rfl fun _ => ?_
           refine aP (aA (q := 4) b7 rfl rfl rfl rfl rfl rfl rfl rfl rfl) rfl ?_
           rintro _ mD _ ⟨c3, _⟩
           have c3 : HS _ _ _ [_, _, _, _, [(A, .cells [(iI z), (iI ja), (iI jb), (iI jc), (iI aq), (.slice none 0 0)] none false)], _] _ := c3
           refine ao 2 rfl ?_
           refine wR 2 [(2, .o (iI aq))] 102 105 [13] [(13, (iI (2 - aq)))] (vA (ql 2 4 (HS.hc c3 (i := 4) rfl) rfl rfl) (vA (vi (n := 2 - aq) (by omega)) trivial)) rfl fun _ => ?_
           have ez := HS.snoc c3
           have ez : HS _ _ _ [_, _, _, _, _, _, []] _ := ez
           refine aG (fun (mm : Nat) f H' => ∃ (kk : Int) (al : List Int) (dl : DigT) (U : Fp) (J : Option Addr) (T : Nat) (F' : Fz), Fz.le h2 F' ∧ HS (Base.of H []) F' H' [cd, ch, [(E, .cells [(iI dl.n)] none false)], p8, [(A, .cells [(iI z), (iI ja), (iI jb), (iI jc), (iI aq), (.slice J al.length T)] none false)], ci, U] R ∧ OS F' (.slice J al.length T) al U ∧ aZ f [(3, (.pointer (some ⟨b1, 0, none⟩))), (4, (.pointer (some ⟨b3, 0, none⟩))), (5, (.pointer (some ⟨E, 0, none⟩))), (9, (.pointer (some ⟨A, 0, none⟩))), (13, (iI kk))] ∧ mm = kk.toNat ∧ ((al.length : Int) + kk = 2 - aq ∧ 0 ≤ kk) ∧ (al.all (aM c.regs) = true) ∧ (in64 dl.n) ∧ (kk ≤ 2)) _ ⟨2 - aq, ([] : List Int), (⟨hh.n⟩ : DigT), [], none, 0, _, fR, ez, (OS.nil : OS h2 (.slice none 0 0) ([] : List Int) []), (agC rfl (agC rfl (agC rfl (agC rfl (agC rfl agN))))), rfl, (by simp; omega), (by rfl), (by omega), (by omega)⟩ ?_
           rintro lU mM mE ⟨kk, al, dl, U, J, T, l7, dt, a0, Z, hA, rfl, q1, q2, q3, q4⟩ kt
           refine aN _ hA (fun _ => ?_)
           clear hA
           replace hT := (hT.mono ht).mono dt
           refine aw 2 rfl ?_
           refine wR 1 [] 106 107 [] [(107, (.bool (decide ((0 : Int) < kk))))] trivial rfl fun _ => ?_
           refine am 3 3 (v := (decide ((0 : Int) < kk))) rfl rfl rfl rfl (fun g3 => ?_) (fun g3 => ?_)
           ·
            try simp only [BS] at g3
            refine aI rfl ?_
            refine ab (v := (.pointer (some ⟨A, 5, none⟩))) (id := .v) (aU rfl rfl) rfl rfl (az rfl) (ay _) ?_
            refine ab (v := (.slice J al.length T)) (id := .l A) (aD (i := 5) rfl rfl (HS.hc a0.log0 (i := 4) rfl) rfl rfl) rfl rfl (aO rfl) (⟨.inl rfl, trivial⟩) ?_
            refine fm (.pointer (some ⟨E, 0, none⟩)) rfl rfl rfl ?_
            refine ab (v := (.pointer (some ⟨b1, 1, none⟩))) (id := .v) (aU rfl rfl) rfl rfl (az rfl) (ay _) ?_
            refine ab (v := (iI c.regs)) (id := .l b1) (aD (i := 1) rfl rfl (HS.hc a0.log0 (i := 0) rfl) rfl rfl) rfl rfl (aO rfl) (⟨.inl rfl, ⟨.inr trivial, ⟨.inr trivial, ⟨.inr trivial, trivial⟩⟩⟩⟩) ?_
            refine bm (W := [E]) (ax rfl rfl rfl) rfl rfl rfl (dm ex (⟨dl.n⟩ : DigT) c.regs (HS.callOwn a0.log0 (i := 2) rfl) (by omega) (by omega) hT (by omega)) (⟨.inl rfl, ⟨.inl rfl, ⟨.inl rfl, ⟨.inr (HS.nin a0 (i := 4) (j := 2) rfl rfl (by decide) (by simp)), ⟨.inr trivial, trivial⟩⟩⟩⟩⟩) ?_
            rintro _ lq ⟨b9, hj, l8, hu, ad, rfl, lH, mZ⟩
            refine ⟨HS.didW ad, fun kv hV => ?_⟩
            replace ad := HS.backOwn a0.log0 (i := 2) rfl rfl (fun _ hb => hb) ad
            replace ad := HS.lg ad a0 hV
            generalize ({ lq with log := kv } : Heap) = lK at ad ⊢
            have ad : HS _ _ _ [_, _, [(E, .cells [(iI hj.n)] none false)], _, [(A, .cells [(iI z), (iI ja), (iI jb), (iI jc), (iI aq), (.slice J al.length T)] none false)], _, U] _ := ad
            replace Z := Z.mono hu
            refine dC (id := .a) (cN (α := Int) (ps := [(0, (iI b9))]) (cells := [(iI b9)]) ([b9] : List Int) ad.log0 rfl rfl rfl (by kernel_rfl) ⟨[(iI b9)], [], rfl, ⟨rfl, by omega⟩, rfl⟩ rfl) rfl rfl (fun _ _ _ _ => gR rfl rfl rfl) (⟨.inl rfl, ⟨.inl rfl, ⟨.inl rfl, ⟨.inl rfl, ⟨.inr trivial, ⟨.inr trivial, trivial⟩⟩⟩⟩⟩⟩) ?_
            rintro _ lu lI ⟨mG, m9, rfl, kp, ag, _⟩ k0 hW
            replace ag := HS.lg ag ad hW
            generalize ({ lu with log := k0 } : Heap) = lL at ag ⊢
            have ag : HS _ _ _ [_, _, _, _, _, _, _, lI] _ := ag
            refine dC (id := .x (U.map Prod.fst)) (ev (α := Int) (q := 6) Z ag.log0 rfl rfl rfl (OS.sv kp ag.log0 (i := 7) rfl) rfl rfl rfl rfl rfl rfl rfl (by first | omega | (simp only [List.length_cons, List.length_nil]; omega))) rfl rfl (by rintro _ _ hQ ⟨e6, hM, rfl, hB, _, hwr⟩; exact cE rfl rfl (Wr.did hwr)) (⟨.inl rfl, ⟨.inl rfl, ⟨.inl rfl, ⟨.inl rfl, ⟨.inl rfl, ⟨.inl rfl, ⟨.inl rfl, trivial⟩⟩⟩⟩⟩⟩⟩) ?_
            rintro _ lv hQ ⟨e6, hM, rfl, hB, a1, _⟩ k3 hX
            replace a1 := HS.lg a1 ag hX
            generalize ({ lv with log := k3 } : Heap) = lM at a1 ⊢
            have a1 : HS _ _ _ [_, _, _, _, _, _, hQ, _] _ := a1
            refine ab (v := (.pointer (some ⟨A, 5, none⟩))) (id := .v) (aU rfl rfl) rfl rfl (az rfl) (ay _) ?_
            refine ed (id := .x [A]) (aA (q := 4) a1.log0 rfl rfl rfl rfl rfl rfl rfl rfl rfl) rfl (by rintro _ _ _ ⟨_, hwr⟩; exact cE rfl rfl (Wr.did hwr)) (⟨.inl rfl, ⟨.inl rfl, ⟨.inl rfl, ⟨.inl rfl, ⟨.inl rfl, ⟨.inl rfl, ⟨.inl rfl, ⟨.inl rfl, ⟨.inl rfl, trivial⟩⟩⟩⟩⟩⟩⟩⟩⟩) ?_
            rintro _ lw _ ⟨a5, _⟩ k4 hY
            replace a5 := HS.lg a5 a1 hY
            generalize ({ lw with log := k4 } : Heap) = lN at a5 ⊢
            have a5 : HS _ _ _ [_, _, _, _, [(A, .cells [(iI z), (iI ja), (iI jb), (iI jc), (iI aq), (.slice e6 (al ++ ([b9] : List Int)).length hM)] none false)], _, _, _] _ := a5
            refine bz ?_
            refine aw 2 rfl ?_
            refine wR 1 [] 108 109 [13] [(13, (iI (kk - 1)))] (vA (vi (n := kk - 1) (by omega)) trivial) rfl fun _ => ?_
            refine kt _ _ _ ?_ ⟨kk - 1, al ++ ([b9] : List Int), (⟨hj.n⟩ : DigT), hQ, e6, hM, _, (fT (dt) hu), (HS.sub a5 (List.sublist_append_left _ _)), hB, (agC rfl (agC rfl (agC rfl (agC rfl (agC rfl agN))))), rfl, (by simp; omega), (by exact all_app q2 (bA.2 (by omega))), (by omega), (by omega)⟩
            omega
           ·
            try simp only [BS] at g3
            obtain ⟨l9, kn, e0, kr, lS⟩ := OS.frz Z a0 (i := 6) rfl
            have e0 : HS _ _ _ [_, _, [(E, .cells [(iI dl.n)] none false)], _, [(A, .cells [(iI z), (iI ja), (iI jb), (iI jc), (iI aq), (.slice J al.length T)] none false)], _, _] _ := e0
            exact a6 _ _ ⟨aq, al, (⟨dl.n⟩ : DigT), J, T, _, (fT (fT (ht) dt) kn), (HS.sub e0 (List.sublist_append_left _ _)), kr, (agC rfl (agC rfl agN)), (by exact immT (by omega)), (by omega), (by omega), (by first | assumption | rfl), (by omega), (by omega)⟩
          ·
           try simp only [BS] at g2
           exact a6 _ _ ⟨0, ([] : List Int), (⟨a2.n⟩ : DigT), none, 0, _, fR, V, (SR.nil : SR h1 (.slice none 0 0) ([] : List Int)), (agC rfl (agC rfl agN)), (by exact immT (by omega)), (by first | assumption | omega | (simp at *; omega)), (by first | omega | (simp <;> omega)), (by first | assumption | rfl), (by first | omega | (simp <;> omega)), (by first | assumption | omega | (simp at *; omega))⟩
     ·
      rintro mL mr ⟨jq, asl, e3, I, O, l5, i3, hD, dd, hz, hjq, rjq, h5, c7, hck, lZ⟩
      refine aN _ hz (fun _ => ?_)
      clear hz
      refine aw 3 rfl ?_
      refine ae ?_
      let hS : Value := (.agg ⟨[(iI z), (iI ja), (iI jb), (iI jc), (iI jq), (.slice I asl.length O)]⟩)
      refine wRo 1 0 [(0, .o hS)] 119 119 [] [(119, hS)] (vA (qn 47 0 6 (HS.hc hD (i := 4) rfl) rfl rfl rfl rfl) trivial) rfl fun _ => ?_
      refine aP (aA (q := 1) hD rfl rfl rfl rfl rfl rfl rfl rfl rfl) rfl ?_
      rintro _ mF _ ⟨c4, _⟩
      have c4 : HS _ _ _ [_, [(b3, .cells [(iI z), (iI ja), (iI jb), (iI jc), (iI jq), (.slice I asl.length O)] none false)], [(E, .cells [(iI e3.n)] none false)], _, [(A, .cells [(iI z), (iI ja), (iI jb), (iI jc), (iI jq), (.slice I asl.length O)] none false)], _] _ := c4
      refine ao 1 rfl ?_
      refine aj ⟨.inr rfl, _, (rC rfl (ldVN rfl rfl (HS.hc c4 (i := 1) rfl) rfl) rN), (⟨(⟨z, ja, jb, jc, jq⟩ : InsT), asl⟩ : VInT), I, O, _, (fT (fT (fT (fT (fT (fT (dn) ds) hk) hl) hm) hp) i3), (HS.forget c4), rfl, (by first | omega | (dsimp only; omega)), (by first | omega | (dsimp only; omega)), (by first | omega | (dsimp only; omega)), (by first | omega | (dsimp only; omega)), (by first | omega | (dsimp only; omega)), dd, (by exact vin_mk ho.2 h5.1 h5.2 c7 hja hjb hjc hjq), (by exact decide_eq_true hck)⟩
end Go.Proofs.YtlabedbmgmfbaaaDoor.m4
