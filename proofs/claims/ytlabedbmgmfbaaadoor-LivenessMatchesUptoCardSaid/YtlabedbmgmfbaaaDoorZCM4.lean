/-
 The generator of virtual code, function by function, each by a symbolic run: what it makes is valid. No condition but that the table lies as laid.
-/
import Derived.Test.YtlabedbmgmfbaaaDoorZCM3
noncomputable section
namespace Go.Proofs.YtlabedbmgmfbaaaDoor.m4
open Go.R
set_option maxRecDepth 10000
set_option linter.unusedVariables false
open m1 m2 m3
theorem wr64 (n : Int) : in64 (IntKind.i64.wrap n) := w64_in n
theorem td64 (n : Int) {m : Int} (h : 0 < m) : in64 (Int.tdiv (IntKind.i64.wrap n) m) := vq (wr64 n) (by omega)
theorem hJ {p : Prop} [Decidable p] {n r : Int} (h : p) (hn : 0 ≤ n ∧ n < r) : dp (decide p) n r = true := by rw [decide_eq_true h]; exact aV.2 hn
theorem fB {p : Prop} [Decidable p] {n r : Int} (h : ¬ p) (hn : n = 0) : dp (decide p) n r = true := by rw [decide_eq_false h, hn]; rfl
def opG (op : Int) : Prop := (op = 3 ∨ op = 6 ∨ (9 ≤ op ∧ op ≤ 13) ∨ (15 ≤ op ∧ op ≤ 35)) ∧ alV op = true
theorem ops_al {op : Int} (h : 15 ≤ op ∧ op ≤ 32) : opG op := ⟨by omega, decide_eq_true (by omega)⟩
theorem lit12 {k : Nat} (h : k < 12) : opG (([3, 6, 9, 10, 11, 12, 13, 33, 34, 35, 10, 9] : List Int).getD k 0) := by
 have : ∀ k : Fin 12, ((([3, 6, 9, 10, 11, 12, 13, 33, 34, 35, 10, 9] : List Int).getD k.val 0) = 3 ∨ (([3, 6, 9, 10, 11, 12, 13, 33, 34, 35, 10, 9] : List Int).getD k.val 0) = 6 ∨ (9 ≤ (([3, 6, 9, 10, 11, 12, 13, 33, 34, 35, 10, 9] : List Int).getD k.val 0) ∧ (([3, 6, 9, 10, 11, 12, 13, 33, 34, 35, 10, 9] : List Int).getD k.val 0) ≤ 13) ∨ (15 ≤ (([3, 6, 9, 10, 11, 12, 13, 33, 34, 35, 10, 9] : List Int).getD k.val 0) ∧ (([3, 6, 9, 10, 11, 12, 13, 33, 34, 35, 10, 9] : List Int).getD k.val 0) ≤ 35)) ∧ alV (([3, 6, 9, 10, 11, 12, 13, 33, 34, 35, 10, 9] : List Int).getD k.val 0) = true := by decide
 exact this ⟨k, h⟩
theorem immT {p op n : Int} (h : op = 13 ∨ op = 33 ∧ -4194304 ≤ n ∧ n < 4194304 ∨ op = 6 ∧ 0 ≤ n ∧ n < 8 ∨ (op = 34 ∨ op = 35) ∧ 0 ≤ n ∧ n < 4 ∨ (op ≠ 13 ∧ op ≠ 33 ∧ op ≠ 6 ∧ op ≠ 34 ∧ op ≠ 35 ∧ op ≠ 38) ∧ n = 0) : gM p op n = true := by
 unfold gM
 (repeat' split) <;> first | rfl | (apply decide_eq_true; omega) | (exfalso; omega)
theorem all_app {p : Int → Bool} {l : List Int} {x : Int} (h : l.all p = true) (hx : p x = true) : (l ++ [x]).all p = true := by rw [List.all_append, h]; simp [hx]
theorem vin_mk {params regs op a b c n : Int} {l : List Int} (z : alV op = true) (A : op = 6 ∨ l.length = 0) (E : l.length ≤ 6) (J : l.all (aK regs) = true) (N : dp (decide (az op ≠ 1)) a regs = true) (T : dp (decide (az op = 3 ∨ az op = 4 ∨ az op = 7)) b regs = true) (U : dp (decide (az op = 4)) c regs = true) (V : gM params op n = true) : eu params regs ⟨⟨op, a, b, c, n⟩, l⟩ = true := by
 unfold eu
 simp only [z, decide_eq_true A, decide_eq_true E, J, N, T, U, V, Bool.and_self]
def ckI (v : VInT) : Bool := decide ((v.i.op = 6 → (v.i.n = 0 ∧ v.args.length = 2 ∨ v.i.n = 1 ∧ v.args.length = 1)) ∧ (v.i.op = 34 ∨ v.i.op = 35 → v.i.n < 2))
theorem cB (ex : FuncId) {b_d : Nat} (d : DigT) (m : Int) {F : Fz} {H : Heap} {R : List Fp} (hs : HS (.of H [b_d]) F H [[(b_d, .cells [(iI d.n)] none false)]] R) (A : in64 d.n) (hm : in64 m) (hT : TB 37 tabC F) (hm : 0 < m) : C Tryd.prog 1 (KT 60 ex 37 tabC) 49 [(.pointer (some ⟨b_d, 0, none⟩)), (iI m)] H fun v H' => ∃ (r : Int) (d' : DigT) (F' : Fz), Fz.le F F' ∧ HS (.of H [b_d]) F' H' [[(b_d, .cells [(iI d'.n)] none false)]] R ∧ v = .int .i64 r ∧ in64 d'.n ∧ (0 ≤ r ∧ r < m) := by
 refine aG Tryd.func49 rfl rfl ?_
 refine aj 1 rfl ?_
 refine wR 2 [] 4 4 [] [(4, (iI 0))] trivial rfl fun _ => ?_
 have E := fj d.n m
 refine wR 2 [(3, .o (iI d.n)), (5, .o (iI (bF d.n m)))] 6 11 [5] [(5, (iI (bF d.n m)))] (vA (ql 3 0 (HS.hc hs (i := 0) rfl) rfl rfl) (vA (m1.gk ex d.n m H (by first | omega | exact wr64 _ | exact td64 _ (by omega))) trivial)) rfl fun _ => ?_
 refine aa ?_
 refine wRo 11 0 [(4, .o (iI d.n)), (6, .w)] 12 22 [] [(20, (iI (Int.tdiv (IntKind.i64.wrap (d.n - (bF d.n m))) m))), (22, (.pointer (some ⟨b_d, 0, none⟩)))] (vA (ql 3 0 (HS.hc hs (i := 0) rfl) rfl rfl) (vA (vA (show m ≠ 0 from by first | omega | exact wr64 _ | exact td64 _ (by omega)) (vq (a := IntKind.i64.wrap (d.n - (bF d.n m))) (b := m) (by first | omega | exact wr64 _ | exact td64 _ (by omega)) (by first | omega | exact wr64 _ | exact td64 _ (by omega)))) trivial)) rfl fun _ => ?_
 refine aM (aD (q := 0) hs rfl rfl rfl rfl rfl rfl rfl rfl rfl) rfl ?_
 rintro _ J _ ⟨z, _⟩
 have z : HS _ _ _ [[(b_d, .cells [(iI (Int.tdiv (IntKind.i64.wrap (d.n - (bF d.n m))) m))] none false)]] _ := z
 refine ae 2 rfl ?_
 refine wR 1 [] 4 4 [23] [(4, (iI (bF d.n m)))] trivial rfl fun _ => ?_
 refine ag ⟨.inr rfl, _, rfl, bF d.n m, (⟨Int.tdiv (IntKind.i64.wrap (d.n - (bF d.n m))) m⟩ : DigT), _, fR, (HS.first z), rfl, (by first | omega | exact wr64 _ | exact td64 _ (by omega)), (by first | assumption | omega | simp_all)⟩
theorem word_c (ex : FuncId) (n : Int) (raw : Int) {F : Fz} {H : Heap} {R : List Fp} (hs : HS (.of H []) F H [] R) (hn : in64 n) (hraw : in64 raw) (hT : TB 37 tabC F) : C Tryd.prog 1 (KT 60 ex 37 tabC) 50 [(iI n), (iI raw)] H fun v H' => ∃ (r : Int) (F' : Fz), Fz.le F F' ∧ HS (.of H []) F' H' [] R ∧ v = .int .i64 r ∧ (in64 r) := by
 refine aG Tryd.func50 rfl rfl ?_
 refine aj 1 rfl ?_
 refine wR 2 [] 4 4 [] [(4, (iI 0))] trivial rfl fun _ => ?_
 refine aa ?_
 refine aF (bA (α := Int) (ps := [(0, (iI 0)), (1, (iI 1)), (2, (iI (-1))), (3, (iI 2)), (4, (iI (-9223372036854775808))), (5, (iI 9223372036854775807)), (6, (iI 4294967296)), (7, (iI (-2147483648))), (8, (iI 63)), (9, (iI 64))]) (cells := [(iI 0), (iI 1), (iI (-1)), (iI 2), (iI (-9223372036854775808)), (iI 9223372036854775807), (iI 4294967296), (iI (-2147483648)), (iI 63), (iI 64)]) ([0, 1, (-1), 2, (-9223372036854775808), 9223372036854775807, 4294967296, (-2147483648), 63, 64] : List Int) hs rfl rfl rfl (by kernel_rfl) ⟨[(iI 0)], _, rfl, ⟨rfl, by omega⟩, ⟨[(iI 1)], _, rfl, ⟨rfl, by omega⟩, ⟨[(iI (-1))], _, rfl, ⟨rfl, by omega⟩, ⟨[(iI 2)], _, rfl, ⟨rfl, by omega⟩, ⟨[(iI (-9223372036854775808))], _, rfl, ⟨rfl, by omega⟩, ⟨[(iI 9223372036854775807)], _, rfl, ⟨rfl, by omega⟩, ⟨[(iI 4294967296)], _, rfl, ⟨rfl, by omega⟩, ⟨[(iI (-2147483648))], _, rfl, ⟨rfl, by omega⟩, ⟨[(iI 63)], _, rfl, ⟨rfl, by omega⟩, ⟨[(iI 64)], _, rfl, ⟨rfl, by omega⟩, rfl⟩⟩⟩⟩⟩⟩⟩⟩⟩⟩ rfl) rfl rfl ?_
 rintro _ T Y ⟨U, k2, rfl, E, z, _⟩
 have z : HS _ _ _ [Y] _ := z
 refine wa (.slice U ([0, 1, (-1), 2, (-9223372036854775808), 9223372036854775807, 4294967296, (-2147483648), 63, 64] : List Int).length k2) rfl rfl rfl ?_
 refine ae 2 rfl ?_
 have al := fj n (24 : Int)
 refine wR 4 [(1, .o (iI (bF n (24 : Int))))] 8 9 [6] [(6, (iI (bF n (24 : Int))))] (vA (m1.gk ex n (24) T (by omega)) trivial) rfl fun _ => ?_
 refine wR 1 [] 10 12 [] [(10, (.bool (decide (bF n (24 : Int) < 10))))] trivial rfl fun _ => ?_
 refine ak 1 1 (v := (decide (bF n (24 : Int) < 10))) rfl rfl rfl rfl (fun N => ?_) (fun N => ?_)
 ·
  try simp only [BS] at N
  obtain ⟨ad, J⟩ := Sv.view (OS.sv E z (i := 0) rfl)
  have g9 := fI (J (bF n (24 : Int)).toNat)
  refine wR 1 [(3, .o (iI (([0, 1, (-1), 2, (-9223372036854775808), 9223372036854775807, 4294967296, (-2147483648), 63, 64] : List Int).getD (bF n (24 : Int)).toNat 0)))] 13 16 [4] [(4, (iI (([0, 1, (-1), 2, (-9223372036854775808), 9223372036854775807, 4294967296, (-2147483648), 63, 64] : List Int).getD (bF n (24 : Int)).toNat 0)))] (vA (Sv.ix (j := bF n (24 : Int)) (OS.sv E z (i := 0) rfl) (by omega) (show bF n (24 : Int) < (10 : Int) from by omega)) (vA (ql 2 0 (vI (J (bF n (24 : Int)).toNat) (show (bF n (24 : Int)).toNat < 10 from by omega)) rfl rfl) trivial)) rfl fun _ => ?_
  refine ag ⟨.inr rfl, _, rfl, (([0, 1, (-1), 2, (-9223372036854775808), 9223372036854775807, 4294967296, (-2147483648), 63, 64] : List Int).getD (bF n (24 : Int)).toNat 0), _, fR, (HS.forget z), rfl, (by omega)⟩
 ·
  try simp only [BS] at N
  refine wR 1 [] 17 19 [] [(17, (.bool (decide (bF n (24 : Int) < 22))))] trivial rfl fun _ => ?_
  refine ak 1 3 (v := (decide (bF n (24 : Int) < 22))) rfl rfl rfl rfl (fun A => ?_) (fun A => ?_)
  ·
   try simp only [BS] at A
   have Z : in64 n → in64 (Int.tdiv n 24) := fun h => vq h (by decide)
   have V := fj (Int.tdiv n 24) (17 : Int)
   refine wR 1 [(2, .o (iI (bF (Int.tdiv n 24) (17 : Int))))] 20 23 [4] [(4, (iI ((bF (Int.tdiv n 24) (17 : Int)) - 6)))] (vA (vA (show (24 : Int) ≠ 0 from by decide) (vq (a := n) (b := 24) (by omega) (by decide))) (vA (m1.gk ex (Int.tdiv n 24) (17) T (by omega)) (vA (vi (n := (bF (Int.tdiv n 24) (17 : Int)) - 6) (by omega)) trivial))) rfl fun _ => ?_
   refine ag ⟨.inr rfl, _, rfl, (bF (Int.tdiv n 24) (17 : Int)) - 6, _, fR, (HS.forget z), rfl, (by omega)⟩
  ·
   try simp only [BS] at A
   refine wR 1 [] 4 4 [24] [(4, (iI raw))] trivial rfl fun _ => ?_
   refine ag ⟨.inr rfl, _, rfl, raw, _, fR, (HS.forget z), rfl, (by omega)⟩
set_option maxHeartbeats 1000000 in
theorem vi_c (ex : FuncId) (n : Int) {e5 : Option Addr} {hG : Nat} (c : VFnT) {F : Fz} {H : Heap} {R : List Fp} (hs : HS (.of H []) F H [] R) (hn : in64 n) (lM : in64 c.params) (lN : in64 c.regs) (hT : TB 37 tabC F) (hr : 1 ≤ c.regs ∧ c.regs ≤ 3000) : C Tryd.prog 1 (KT 60 ex 37 tabC) 44 [(iI n), (.agg ⟨[(iI c.params), (iI c.regs), (.slice e5 c.blocks.length hG)]⟩)] H fun v H' => ∃ (x : VInT) (e6 : Option Addr) (hH : Nat) (F' : Fz), Fz.le F F' ∧ HS (.of H []) F' H' [] R ∧ v = .agg ⟨[.int .i64 x.i.op, .int .i64 x.i.a, .int .i64 x.i.b, .int .i64 x.i.c, .int .i64 x.i.n, .slice e6 x.args.length hH]⟩ ∧ in64 x.i.op ∧ in64 x.i.a ∧ in64 x.i.b ∧ in64 x.i.c ∧ in64 x.i.n ∧ SR F' (.slice e6 x.args.length hH) x.args ∧ (eu c.params c.regs x = true) ∧ (ckI x = true) := by
 refine aG Tryd.func44 rfl rfl ?_
 refine aj 1 rfl ?_
 refine aa ?_
 refine aF (bB hs rfl rfl) rfl rfl ?_
 rintro _ H2 _ ⟨b1, rfl, c5, _⟩
 let b5 : Fp := [(b1, .cells [(iI c.params), (iI c.regs), (.slice e5 c.blocks.length hG)] none false)]
 have c5 : HS _ _ _ [b5] _ := c5
 refine aF (bE c5 rfl) rfl rfl ?_
 rintro _ H4 _ ⟨b3, rfl, hv, _⟩
 let b7 : Fp := [(b3, .cells [(iI 0), (iI 0), (iI 0), (iI 0), (iI 0), (.slice none 0 0)] none false)]
 have hv : HS _ _ _ [_, b7] _ := hv
 refine ae 2 rfl ?_
 refine aa ?_
 refine wRo 2 0 [] 14 15 [] [(15, (.agg ⟨[(iI n)]⟩))] trivial rfl fun _ => ?_
 refine aF (bB hv rfl rfl) rfl rfl ?_
 rintro _ H7 _ ⟨E, rfl, hz, _⟩
 have hz : HS _ _ _ [_, _, [(E, .cells [(iI n)] none false)]] _ := hz
 refine wa (.pointer (some ⟨E, 0, none⟩)) rfl rfl rfl ?_
 refine ae 2 rfl ?_
 refine aa ?_
 refine aF (bA (α := Int) (ps := [(0, (iI 3)), (1, (iI 6)), (2, (iI 9)), (3, (iI 10)), (4, (iI 11)), (5, (iI 12)), (6, (iI 13)), (7, (iI 33)), (8, (iI 34)), (9, (iI 35)), (10, (iI 10)), (11, (iI 9))]) (cells := [(iI 3), (iI 6), (iI 9), (iI 10), (iI 11), (iI 12), (iI 13), (iI 33), (iI 34), (iI 35), (iI 10), (iI 9)]) ([3, 6, 9, 10, 11, 12, 13, 33, 34, 35, 10, 9] : List Int) hz rfl rfl rfl (by kernel_rfl) ⟨[(iI 3)], _, rfl, ⟨rfl, by first | omega | (dsimp only; omega)⟩, ⟨[(iI 6)], _, rfl, ⟨rfl, by first | omega | (dsimp only; omega)⟩, ⟨[(iI 9)], _, rfl, ⟨rfl, by first | omega | (dsimp only; omega)⟩, ⟨[(iI 10)], _, rfl, ⟨rfl, by first | omega | (dsimp only; omega)⟩, ⟨[(iI 11)], _, rfl, ⟨rfl, by first | omega | (dsimp only; omega)⟩, ⟨[(iI 12)], _, rfl, ⟨rfl, by first | omega | (dsimp only; omega)⟩, ⟨[(iI 13)], _, rfl, ⟨rfl, by first | omega | (dsimp only; omega)⟩, ⟨[(iI 33)], _, rfl, ⟨rfl, by first | omega | (dsimp only; omega)⟩, ⟨[(iI 34)], _, rfl, ⟨rfl, by first | omega | (dsimp only; omega)⟩, ⟨[(iI 35)], _, rfl, ⟨rfl, by first | omega | (dsimp only; omega)⟩, ⟨[(iI 10)], _, rfl, ⟨rfl, by first | omega | (dsimp only; omega)⟩, ⟨[(iI 9)], _, rfl, ⟨rfl, by first | omega | (dsimp only; omega)⟩, rfl⟩⟩⟩⟩⟩⟩⟩⟩⟩⟩⟩⟩ rfl) rfl rfl ?_
 rintro _ H9 p8 ⟨a8, k8, rfl, ez, e0, _⟩
 have e0 : HS _ _ _ [_, _, _, p8] _ := e0
 refine wa (.slice a8 ([3, 6, 9, 10, 11, 12, 13, 33, 34, 35, 10, 9] : List Int).length k8) rfl rfl rfl ?_
 refine ae 2 rfl ?_
 refine aa ?_
 refine wm (.pointer (some ⟨E, 0, none⟩)) rfl rfl rfl ?_
 refine aA (ah rfl rfl rfl) rfl rfl (cB ex (⟨n⟩ : DigT) (18) (HS.callOwn e0 (i := 2) rfl) (by omega) (by omega) hT (by omega)) ?_
 rintro _ l6 ⟨hK, f9, lW, dd, a2, rfl, k5, mW⟩
 replace a2 := HS.backOwn e0 (i := 2) rfl rfl (fun _ hb => hb) a2
 have a2 : HS _ _ _ [_, _, [(E, .cells [(iI f9.n)] none false)], _] _ := a2
 replace hT := hT.mono dd
 refine wRo 2 2 [] 20 20 [7] [(7, (iI (15 + hK)))] (vA (vi (n := 15 + hK) (by omega)) trivial) rfl fun _ => ?_
 refine ae 3 rfl ?_
 refine aa ?_
 refine wm (.pointer (some ⟨E, 0, none⟩)) rfl rfl rfl ?_
 refine aA (ah rfl rfl rfl) rfl rfl (cB ex (⟨f9.n⟩ : DigT) (24) (HS.callOwn a2 (i := 2) rfl) (by omega) (by omega) hT (by omega)) ?_
 rintro _ hY ⟨ar, c9, lX, dk, aw, rfl, k6, mX⟩
 replace aw := HS.backOwn a2 (i := 2) rfl rfl (fun _ hb => hb) aw
 have aw : HS _ _ _ [_, _, [(E, .cells [(iI c9.n)] none false)], _] _ := aw
 replace hT := hT.mono dk
 replace ez := (ez.mono dd).mono dk
 refine wa (iI ar) rfl rfl rfl ?_
 refine ae 2 rfl ?_
 refine wR 1 [] 23 26 [] [(26, (.bool (decide (ar < 12))))] trivial rfl fun _ => ?_
 refine bP (fun f H' => ∃ (z : Int), H' = hY ∧ aI f [(0, (iI n)), (3, (.pointer (some ⟨b1, 0, none⟩))), (4, (.pointer (some ⟨b3, 0, none⟩))), (5, (.pointer (some ⟨E, 0, none⟩))), (7, (iI z))] ∧ (opG z)) (fun hB => ?_) ?_
 ·
  refine ak 0 0 (v := (decide (ar < 12))) rfl rfl rfl rfl (fun fd => ?_) (fun fd => ?_)
  ·
   try simp only [BS] at fd
   obtain ⟨lL, hA⟩ := Sv.view (OS.sv ez aw (i := 3) rfl)
   have mV := fI (hA ar.toNat)
   refine wR 0 [(3, .o (iI (([3, 6, 9, 10, 11, 12, 13, 33, 34, 35, 10, 9] : List Int).getD ar.toNat 0)))] 27 30 [7] [(7, (iI (([3, 6, 9, 10, 11, 12, 13, 33, 34, 35, 10, 9] : List Int).getD ar.toNat 0)))] (vA (Sv.ix (j := ar) (OS.sv ez aw (i := 3) rfl) (by omega) (show ar < (12 : Int) from by first | omega | (dsimp only; omega))) (vA (ql 3 0 (vI (hA ar.toNat) (show ar.toNat < 12 from by first | omega | (dsimp only; omega))) rfl rfl) trivial)) rfl fun _ => ?_
   exact hB _ _ ⟨(([3, 6, 9, 10, 11, 12, 13, 33, 34, 35, 10, 9] : List Int).getD ar.toNat 0), rfl, (agC rfl (agC rfl (agC rfl (agC rfl (agC rfl agN))))), (by first | exact lit12 (by omega) | exact ops_al (by omega))⟩
  ·
   try simp only [BS] at fd
   exact hB _ _ ⟨15 + hK, rfl, (agC rfl (agC rfl (agC rfl (agC rfl (agC rfl agN))))), (by first | exact lit12 (by omega) | exact ops_al (by omega))⟩
 ·
  rintro mP hY ⟨z, rfl, hk, ho⟩
  refine au _ hk (fun _ => ?_)
  clear hk
  have hf := aJ ho.2
  have hvf : az z = (aH z).form := if_neg (by have := ho.1; omega)
  have ni := ho.1
  refine aj 2 rfl ?_
  refine aa ?_
  refine wRo 3 0 [] 31 33 [] [(33, (.agg ⟨[(iI z), (iI 0), (iI 0), (iI 0), (iI 0), (.slice none 0 0)]⟩))] trivial rfl fun _ => ?_
  refine aF (bE aw rfl) rfl rfl ?_
  rintro _ l7 _ ⟨A, rfl, ds, _⟩
  have ds : HS _ _ _ [_, _, _, _, [(A, .cells [(iI 0), (iI 0), (iI 0), (iI 0), (iI 0), (.slice none 0 0)] none false)]] _ := ds
  refine aM (aD (q := 4) ds rfl rfl rfl rfl rfl rfl rfl rfl rfl) rfl ?_
  rintro _ l8 _ ⟨ch, _⟩
  have ch : HS _ _ _ [_, _, _, _, [(A, .cells [(iI z), (iI 0), (iI 0), (iI 0), (iI 0), (.slice none 0 0)] none false)]] _ := ch
  refine ae 2 rfl ?_
  refine aa ?_
  refine wm (iI z) rfl rfl rfl ?_
  refine aA (ah rfl rfl rfl) rfl rfl (m1.rInfo_c ex z (HS.call ch) (by omega) hT) ?_
  rintro _ l9 ⟨nl, nk, ki, g8, a6, rfl, kc, kd, rfl, rfl⟩
  replace a6 := HS.back ch rfl a6
  have a6 : HS _ _ _ [_, _, _, _, _] _ := a6
  replace hT := hT.mono g8
  refine wRo 3 2 [] 37 38 [34] [(37, (.agg ⟨[(.string ⟨⟨(aH z).name.b⟩⟩), (iI (aH z).form), (.bool (aH z).ra), (.bool (aH z).wa), (.bool (aH z).rb), (.bool (aH z).mt), (iI (aH z).words)]⟩)), (38, (.bool (infO z)))] trivial rfl fun _ => ?_
  refine aF (bE a6 rfl) rfl rfl ?_
  rintro _ mk _ ⟨h1, rfl, dt, _⟩
  have dt : HS _ _ _ [_, _, _, _, _, [(h1, .cells [(.string ⟨⟨[]⟩⟩), (iI 0), (.bool false), (.bool false), (.bool false), (.bool false), (iI 0)] none false)]] _ := dt
  refine aM (aD (q := 5) dt rfl rfl rfl rfl rfl rfl rfl rfl rfl) rfl ?_
  rintro _ mn _ ⟨ax, _⟩
  let b9 : Fp := [(h1, .cells [(.string ⟨⟨(aH z).name.b⟩⟩), (iI (aH z).form), (.bool (aH z).ra), (.bool (aH z).wa), (.bool (aH z).rb), (.bool (aH z).mt), (iI (aH z).words)] none false)]
  have ax : HS _ _ _ [_, _, _, _, _, b9] _ := ax
  refine wa (.bool (infO z)) rfl rfl rfl ?_
  refine ae 2 rfl ?_
  refine wR 3 [(1, .o (iI (aH z).form))] 39 40 [12] [(12, (iI (aH z).form))] (vA (ql 3 1 (HS.hc ax (i := 5) rfl) rfl rfl) trivial) rfl fun _ => ?_
  refine wR 1 [] 41 42 [] [(42, (.bool ((aH z).form != 1)))] trivial rfl fun _ => ?_
  refine bP (fun f H' => ∃ (ja : Int) (c6 : DigT) (F' : Fz), Fz.le ki F' ∧ HS (Base.of H []) F' H' [b5, b7, [(E, .cells [(iI c6.n)] none false)], p8, [(A, .cells [(iI z), (iI ja), (iI 0), (iI 0), (iI 0), (.slice none 0 0)] none false)], b9] R ∧ aI f [(0, (iI n)), (3, (.pointer (some ⟨b1, 0, none⟩))), (4, (.pointer (some ⟨b3, 0, none⟩))), (5, (.pointer (some ⟨E, 0, none⟩))), (7, (iI z)), (9, (.pointer (some ⟨A, 0, none⟩))), (12, (iI (aH z).form))] ∧ (dp (decide (az z ≠ 1)) ja c.regs = true) ∧ (in64 ja) ∧ (in64 c6.n)) (fun hC => ?_) ?_
  ·
   refine ak 0 0 (v := ((aH z).form != 1)) rfl rfl rfl rfl (fun fi => ?_) (fun fi => ?_)
   ·
    try simp only [BS] at fi
    refine aa ?_
    refine wRo 3 0 [(2, .o (iI c.regs))] 43 45 [] [(43, (.pointer (some ⟨E, 0, none⟩))), (45, (iI c.regs))] (vA (ql 3 1 (HS.hc ax (i := 0) rfl) rfl rfl) trivial) rfl fun _ => ?_
    refine aA (ah rfl rfl rfl) rfl rfl (cB ex (⟨c9.n⟩ : DigT) c.regs (HS.callOwn ax (i := 2) rfl) (by omega) (by omega) hT (by omega)) ?_
    rintro _ mq ⟨h3, go, lY, h9, a7, rfl, k7, mY⟩
    replace a7 := HS.backOwn ax (i := 2) rfl rfl (fun _ hb => hb) a7
    have a7 : HS _ _ _ [_, _, [(E, .cells [(iI go.n)] none false)], _, _, _] _ := a7
    refine wRo 2 4 [] 47 48 [] [(48, (.pointer (some ⟨A, 1, none⟩)))] trivial rfl fun _ => ?_
    refine aM (aD (q := 4) a7 rfl rfl rfl rfl rfl rfl rfl rfl rfl) rfl ?_
    rintro _ mr _ ⟨dv, _⟩
    have dv : HS _ _ _ [_, _, _, _, [(A, .cells [(iI z), (iI h3), (iI 0), (iI 0), (iI 0), (.slice none 0 0)] none false)], _] _ := dv
    refine ae 0 rfl ?_
    exact hC _ _ ⟨h3, (⟨go.n⟩ : DigT), _, (h9), dv, (agC rfl (agC rfl (agC rfl (agC rfl (agC rfl (agC rfl (agC rfl agN))))))), (by first | exact hJ (by omega) (by omega) | exact fB (by omega) rfl), (by first | assumption | omega | (simp at *; omega)), (by first | assumption | omega | (simp at *; omega))⟩
   ·
    try simp only [BS] at fi
    exact hC _ _ ⟨0, (⟨c9.n⟩ : DigT), _, fR, ax, (agC rfl (agC rfl (agC rfl (agC rfl (agC rfl (agC rfl (agC rfl agN))))))), (by first | exact hJ (by omega) (by omega) | exact fB (by omega) rfl), (by first | assumption | omega | (simp at *; omega)), (by first | assumption | omega | (simp at *; omega))⟩
  ·
   rintro mQ mp ⟨ja, c6, kl, g9, ci, hl, hja, rja, lS⟩
   refine au _ hl (fun _ => ?_)
   clear hl
   replace hT := hT.mono g9
   refine aj 3 rfl ?_
   refine wR 1 [] 49 58 [] [(58, (.bool ((((aH z).form == 3) || ((aH z).form == 4)) || ((aH z).form == 7))))] trivial rfl fun _ => ?_
   refine bP (fun f H' => ∃ (jb : Int) (c7 : DigT) (F' : Fz), Fz.le kl F' ∧ HS (Base.of H []) F' H' [b5, b7, [(E, .cells [(iI c7.n)] none false)], p8, [(A, .cells [(iI z), (iI ja), (iI jb), (iI 0), (iI 0), (.slice none 0 0)] none false)], b9] R ∧ aI f [(0, (iI n)), (3, (.pointer (some ⟨b1, 0, none⟩))), (4, (.pointer (some ⟨b3, 0, none⟩))), (5, (.pointer (some ⟨E, 0, none⟩))), (7, (iI z)), (9, (.pointer (some ⟨A, 0, none⟩))), (12, (iI (aH z).form))] ∧ (dp (decide (az z = 3 ∨ az z = 4 ∨ az z = 7)) jb c.regs = true) ∧ (in64 jb) ∧ (in64 c7.n)) (fun hD => ?_) ?_
   ·
    refine ak 0 0 (v := ((((aH z).form == 3) || ((aH z).form == 4)) || ((aH z).form == 7))) rfl rfl rfl rfl (fun f0 => ?_) (fun f0 => ?_)
    ·
     try simp only [BS] at f0
     refine aa ?_
     refine wRo 3 0 [(2, .o (iI c.regs))] 59 61 [] [(59, (.pointer (some ⟨E, 0, none⟩))), (61, (iI c.regs))] (vA (ql 3 1 (HS.hc ci (i := 0) rfl) rfl rfl) trivial) rfl fun _ => ?_
     refine aA (ah rfl rfl rfl) rfl rfl (cB ex (⟨c6.n⟩ : DigT) c.regs (HS.callOwn ci (i := 2) rfl) (by omega) (by omega) hT (by omega)) ?_
     rintro _ mu ⟨h4, g0, lZ, ib, a9, rfl, k9, mZ⟩
     replace a9 := HS.backOwn ci (i := 2) rfl rfl (fun _ hb => hb) a9
     have a9 : HS _ _ _ [_, _, [(E, .cells [(iI g0.n)] none false)], _, [(A, .cells [(iI z), (iI ja), (iI 0), (iI 0), (iI 0), (.slice none 0 0)] none false)], _] _ := a9
     refine wRo 2 4 [] 63 64 [] [(64, (.pointer (some ⟨A, 2, none⟩)))] trivial rfl fun _ => ?_
     refine aM (aD (q := 4) a9 rfl rfl rfl rfl rfl rfl rfl rfl rfl) rfl ?_
     rintro _ mw _ ⟨d1, _⟩
     have d1 : HS _ _ _ [_, _, _, _, [(A, .cells [(iI z), (iI ja), (iI h4), (iI 0), (iI 0), (.slice none 0 0)] none false)], _] _ := d1
     refine ae 0 rfl ?_
     exact hD _ _ ⟨h4, (⟨g0.n⟩ : DigT), _, (ib), d1, (agC rfl (agC rfl (agC rfl (agC rfl (agC rfl (agC rfl (agC rfl agN))))))), (by first | exact hJ (by omega) (by omega) | exact fB (by omega) rfl), (by first | assumption | omega | (simp at *; omega)), (by first | assumption | omega | (simp at *; omega))⟩
    ·
     try simp only [BS] at f0
     exact hD _ _ ⟨0, (⟨c6.n⟩ : DigT), _, fR, ci, (agC rfl (agC rfl (agC rfl (agC rfl (agC rfl (agC rfl (agC rfl agN))))))), (by first | exact hJ (by omega) (by omega) | exact fB (by omega) rfl), (by first | assumption | omega | (simp at *; omega)), (by first | assumption | omega | (simp at *; omega))⟩
   ·
    rintro mR ms ⟨jb, c7, kn, ha, cl, hm, hjb, rjb, lT⟩
    refine au _ hm (fun _ => ?_)
    clear hm
    replace hT := hT.mono ha
    refine aj 3 rfl ?_
    refine wR 1 [] 65 66 [] [(66, (.bool ((aH z).form == 4)))] trivial rfl fun _ => ?_
    refine bP (fun f H' => ∃ (jc : Int) (a1 : DigT) (F' : Fz), Fz.le kn F' ∧ HS (Base.of H []) F' H' [b5, b7, [(E, .cells [(iI a1.n)] none false)], p8, [(A, .cells [(iI z), (iI ja), (iI jb), (iI jc), (iI 0), (.slice none 0 0)] none false)], b9] R ∧ aI f [(0, (iI n)), (3, (.pointer (some ⟨b1, 0, none⟩))), (4, (.pointer (some ⟨b3, 0, none⟩))), (5, (.pointer (some ⟨E, 0, none⟩))), (7, (iI z)), (9, (.pointer (some ⟨A, 0, none⟩)))] ∧ (dp (decide (az z = 4)) jc c.regs = true) ∧ (in64 jc) ∧ (in64 a1.n)) (fun hE => ?_) ?_
    ·
     refine ak 0 0 (v := ((aH z).form == 4)) rfl rfl rfl rfl (fun f1 => ?_) (fun f1 => ?_)
     ·
      try simp only [BS] at f1
      refine aa ?_
      refine wRo 3 0 [(2, .o (iI c.regs))] 67 69 [] [(67, (.pointer (some ⟨E, 0, none⟩))), (69, (iI c.regs))] (vA (ql 3 1 (HS.hc cl (i := 0) rfl) rfl rfl) trivial) rfl fun _ => ?_
      refine aA (ah rfl rfl rfl) rfl rfl (cB ex (⟨c7.n⟩ : DigT) c.regs (HS.callOwn cl (i := 2) rfl) (by omega) (by omega) hT (by omega)) ?_
      rintro _ my ⟨h5, g1, l0, ih, bb, rfl, la, m0⟩
      replace bb := HS.backOwn cl (i := 2) rfl rfl (fun _ hb => hb) bb
      have bb : HS _ _ _ [_, _, [(E, .cells [(iI g1.n)] none false)], _, [(A, .cells [(iI z), (iI ja), (iI jb), (iI 0), (iI 0), (.slice none 0 0)] none false)], _] _ := bb
      refine wRo 2 4 [] 71 72 [] [(72, (.pointer (some ⟨A, 3, none⟩)))] trivial rfl fun _ => ?_
      refine aM (aD (q := 4) bb rfl rfl rfl rfl rfl rfl rfl rfl rfl) rfl ?_
      rintro _ mz _ ⟨d2, _⟩
      have d2 : HS _ _ _ [_, _, _, _, [(A, .cells [(iI z), (iI ja), (iI jb), (iI h5), (iI 0), (.slice none 0 0)] none false)], _] _ := d2
      refine ae 0 rfl ?_
      exact hE _ _ ⟨h5, (⟨g1.n⟩ : DigT), _, (ih), d2, (agC rfl (agC rfl (agC rfl (agC rfl (agC rfl (agC rfl agN)))))), (by first | exact hJ (by omega) (by omega) | exact fB (by omega) rfl), (by first | assumption | omega | (simp at *; omega)), (by first | assumption | omega | (simp at *; omega))⟩
     ·
      try simp only [BS] at f1
      exact hE _ _ ⟨0, (⟨c7.n⟩ : DigT), _, fR, cl, (agC rfl (agC rfl (agC rfl (agC rfl (agC rfl (agC rfl agN)))))), (by first | exact hJ (by omega) (by omega) | exact fB (by omega) rfl), (by first | assumption | omega | (simp at *; omega)), (by first | assumption | omega | (simp at *; omega))⟩
    ·
     rintro mS mx ⟨jc, a1, hW, he, Y, hp, hjc, rjc, lU⟩
     refine au _ hp (fun _ => ?_)
     clear hp
     replace hT := hT.mono he
     refine aj 3 rfl ?_
     refine wR 3 [] 73 73 [] [(73, (iI z))] trivial rfl fun _ => ?_
     refine wR 1 [] 74 75 [] [(74, (.bool (z == 13)))] trivial rfl fun _ => ?_
     refine bP (fun f H' => ∃ (jq : Int) (asl : List Int) (e1 : DigT) (J : Option Addr) (T : Nat) (F' : Fz), Fz.le hW F' ∧ HS (Base.of H []) F' H' [b5, b7, [(E, .cells [(iI e1.n)] none false)], p8, [(A, .cells [(iI z), (iI ja), (iI jb), (iI jc), (iI jq), (.slice J asl.length T)] none false)], b9] R ∧ SR F' (.slice J asl.length T) asl ∧ aI f [(4, (.pointer (some ⟨b3, 0, none⟩))), (9, (.pointer (some ⟨A, 0, none⟩)))] ∧ (gM c.params z jq = true) ∧ (in64 jq) ∧ ((z = 6 ∨ asl.length = 0) ∧ asl.length ≤ 6) ∧ (asl.all (aK c.regs) = true) ∧ ((z = 6 → (jq = 0 ∧ asl.length = 2 ∨ jq = 1 ∧ asl.length = 1)) ∧ (z = 34 ∨ z = 35 → jq < 2)) ∧ (in64 e1.n)) (fun a5 => ?_) ?_
     ·
      refine ak 0 1 (v := (z == 13)) rfl rfl rfl rfl (fun f2 => ?_) (fun f2 => ?_)
      ·
       try simp only [BS] at f2
       refine aa ?_
       refine wm (.pointer (some ⟨E, 0, none⟩)) rfl rfl rfl ?_
       refine aA (ah rfl rfl rfl) rfl rfl (cB ex (⟨a1.n⟩ : DigT) (400) (HS.callOwn Y (i := 2) rfl) (by omega) (by omega) hT (by omega)) ?_
       rintro _ mB ⟨lF, g2, l2, hg, a3, rfl, lr, m7⟩
       replace a3 := HS.backOwn Y (i := 2) rfl rfl (fun _ hb => hb) a3
       have a3 : HS _ _ _ [_, _, [(E, .cells [(iI g2.n)] none false)], _, [(A, .cells [(iI z), (iI ja), (iI jb), (iI jc), (iI 0), (.slice none 0 0)] none false)], _] _ := a3
       replace hT := hT.mono hg
       refine wm (iI n) rfl rfl rfl ?_
       refine aA (ah rfl rfl rfl) rfl rfl (word_c ex lF n (HS.call a3) (by omega) (by omega) hT) ?_
       rintro _ mC ⟨h6, kr, ik, bk, rfl, m8⟩
       replace bk := HS.back a3 rfl bk
       have bk : HS _ _ _ [_, _, _, _, _, _] _ := bk
       refine wRo 2 4 [] 80 81 [] [(81, (.pointer (some ⟨A, 4, none⟩)))] trivial rfl fun _ => ?_
       refine aM (aD (q := 4) bk rfl rfl rfl rfl rfl rfl rfl rfl rfl) rfl ?_
       rintro _ mD _ ⟨d3, _⟩
       have d3 : HS _ _ _ [_, _, _, _, [(A, .cells [(iI z), (iI ja), (iI jb), (iI jc), (iI h6), (.slice none 0 0)] none false)], _] _ := d3
       refine ae 0 rfl ?_
       exact a5 _ _ ⟨h6, ([] : List Int), (⟨g2.n⟩ : DigT), none, 0, _, (fT (hg) ik), d3, (SR.nil : SR kr (.slice none 0 0) ([] : List Int)), (agC rfl (agC rfl agN)), (by exact immT (by omega)), (by first | assumption | omega | (simp at *; omega)), (by first | omega | (simp <;> omega)), (by first | assumption | rfl), (by first | omega | (simp <;> omega)), (by first | assumption | omega | (simp at *; omega))⟩
      ·
       try simp only [BS] at f2
       refine wR 1 [] 82 83 [] [(82, (.bool (z == 33)))] trivial rfl fun _ => ?_
       refine ak 0 2 (v := (z == 33)) rfl rfl rfl rfl (fun f3 => ?_) (fun f3 => ?_)
       ·
        try simp only [BS] at f3
        refine aa ?_
        refine wm (.pointer (some ⟨E, 0, none⟩)) rfl rfl rfl ?_
        refine aA (ah rfl rfl rfl) rfl rfl (cB ex (⟨a1.n⟩ : DigT) (9) (HS.callOwn Y (i := 2) rfl) (by omega) (by omega) hT (by omega)) ?_
        rintro _ mE ⟨e2, g3, kt, il, bl, rfl, lv, na⟩
        replace bl := HS.backOwn Y (i := 2) rfl rfl (fun _ hb => hb) bl
        have bl : HS _ _ _ [_, _, [(E, .cells [(iI g3.n)] none false)], _, [(A, .cells [(iI z), (iI ja), (iI jb), (iI jc), (iI 0), (.slice none 0 0)] none false)], _] _ := bl
        refine wRo 3 2 [] 86 88 [] [(86, (iI (e2 - 4))), (88, (.pointer (some ⟨A, 4, none⟩)))] (vA (vi (n := e2 - 4) (by omega)) trivial) rfl fun _ => ?_
        refine aM (aD (q := 4) bl rfl rfl rfl rfl rfl rfl rfl rfl rfl) rfl ?_
        rintro _ mF _ ⟨d4, _⟩
        have d4 : HS _ _ _ [_, _, _, _, [(A, .cells [(iI z), (iI ja), (iI jb), (iI jc), (iI (e2 - 4)), (.slice none 0 0)] none false)], _] _ := d4
        refine ae 0 rfl ?_
        exact a5 _ _ ⟨e2 - 4, ([] : List Int), (⟨g3.n⟩ : DigT), none, 0, _, (il), d4, (SR.nil : SR kt (.slice none 0 0) ([] : List Int)), (agC rfl (agC rfl agN)), (by exact immT (by omega)), (by first | assumption | omega | (simp at *; omega)), (by first | omega | (simp <;> omega)), (by first | assumption | rfl), (by first | omega | (simp <;> omega)), (by first | assumption | omega | (simp at *; omega))⟩
       ·
        try simp only [BS] at f3
        refine wR 1 [] 89 90 [] [(89, (.bool (z == 34)))] trivial rfl fun _ => ?_
        refine ak 1 0 (v := (z == 34)) rfl rfl rfl rfl (fun cc => ?_) (fun cc => ?_)
        ·
         have f4 := cc
         try simp only [BS] at f4
         refine bp 0 (v := (z == 34)) rfl cc rfl rfl ?_
         refine aa ?_
         refine wm (.pointer (some ⟨E, 0, none⟩)) rfl rfl rfl ?_
         refine aA (ah rfl rfl rfl) rfl rfl (cB ex (⟨a1.n⟩ : DigT) (2) (HS.callOwn Y (i := 2) rfl) (by omega) (by omega) hT (by omega)) ?_
         rintro _ mG ⟨h7, g4, kx, it, bz, rfl, lA, nc⟩
         replace bz := HS.backOwn Y (i := 2) rfl rfl (fun _ hb => hb) bz
         have bz : HS _ _ _ [_, _, [(E, .cells [(iI g4.n)] none false)], _, [(A, .cells [(iI z), (iI ja), (iI jb), (iI jc), (iI 0), (.slice none 0 0)] none false)], _] _ := bz
         refine wRo 2 2 [] 94 95 [] [(95, (.pointer (some ⟨A, 4, none⟩)))] trivial rfl fun _ => ?_
         refine aM (aD (q := 4) bz rfl rfl rfl rfl rfl rfl rfl rfl rfl) rfl ?_
         rintro _ mH _ ⟨ea, _⟩
         have ea : HS _ _ _ [_, _, _, _, [(A, .cells [(iI z), (iI ja), (iI jb), (iI jc), (iI h7), (.slice none 0 0)] none false)], _] _ := ea
         refine ae 0 rfl ?_
         exact a5 _ _ ⟨h7, ([] : List Int), (⟨g4.n⟩ : DigT), none, 0, _, (it), ea, (SR.nil : SR kx (.slice none 0 0) ([] : List Int)), (agC rfl (agC rfl agN)), (by exact immT (by omega)), (by first | assumption | omega | (simp at *; omega)), (by first | omega | (simp <;> omega)), (by first | assumption | rfl), (by first | omega | (simp <;> omega)), (by first | assumption | omega | (simp at *; omega))⟩
        ·
         have f4 := cc
         try simp only [BS] at f4
         refine wR 1 [] 89 91 [] [(89, (.bool (z == 35)))] trivial rfl fun _ => ?_
         refine ak 0 1 (v := (z == 35)) rfl rfl rfl rfl (fun f5 => ?_) (fun f5 => ?_)
         ·
          try simp only [BS] at f5
          refine aa ?_
          refine wm (.pointer (some ⟨E, 0, none⟩)) rfl rfl rfl ?_
          refine aA (ah rfl rfl rfl) rfl rfl (cB ex (⟨a1.n⟩ : DigT) (2) (HS.callOwn Y (i := 2) rfl) (by omega) (by omega) hT (by omega)) ?_
          rintro _ mI ⟨h8, g5, ky, iv, b0, rfl, lB, ne⟩
          replace b0 := HS.backOwn Y (i := 2) rfl rfl (fun _ hb => hb) b0
          have b0 : HS _ _ _ [_, _, [(E, .cells [(iI g5.n)] none false)], _, [(A, .cells [(iI z), (iI ja), (iI jb), (iI jc), (iI 0), (.slice none 0 0)] none false)], _] _ := b0
          refine wRo 2 2 [] 94 95 [] [(95, (.pointer (some ⟨A, 4, none⟩)))] trivial rfl fun _ => ?_
          refine aM (aD (q := 4) b0 rfl rfl rfl rfl rfl rfl rfl rfl rfl) rfl ?_
          rintro _ mJ _ ⟨em, _⟩
          have em : HS _ _ _ [_, _, _, _, [(A, .cells [(iI z), (iI ja), (iI jb), (iI jc), (iI h8), (.slice none 0 0)] none false)], _] _ := em
          refine ae 0 rfl ?_
          exact a5 _ _ ⟨h8, ([] : List Int), (⟨g5.n⟩ : DigT), none, 0, _, (iv), em, (SR.nil : SR ky (.slice none 0 0) ([] : List Int)), (agC rfl (agC rfl agN)), (by exact immT (by omega)), (by first | assumption | omega | (simp at *; omega)), (by first | omega | (simp <;> omega)), (by first | assumption | rfl), (by first | omega | (simp <;> omega)), (by first | assumption | omega | (simp at *; omega))⟩
         ·
          try simp only [BS] at f5
          refine wR 1 [] 96 97 [] [(96, (.bool (z == 6)))] trivial rfl fun _ => ?_
          refine ak 1 0 (v := (z == 6)) rfl rfl rfl rfl (fun f6 => ?_) (fun f6 => ?_)
          ·
           try simp only [BS] at f6
           refine aa ?_
           refine wm (.pointer (some ⟨E, 0, none⟩)) rfl rfl rfl ?_
           refine aA (ah rfl rfl rfl) rfl rfl (cB ex (⟨a1.n⟩ : DigT) (2) (HS.callOwn Y (i := 2) rfl) (by omega) (by omega) hT (by omega)) ?_
           rintro _ mK ⟨av, g6, hX, hh, b2, rfl, lC, ng⟩
           replace b2 := HS.backOwn Y (i := 2) rfl rfl (fun _ hb => hb) b2
           have b2 : HS _ _ _ [_, _, [(E, .cells [(iI g6.n)] none false)], _, [(A, .cells [(iI z), (iI ja), (iI jb), (iI jc), (iI 0), (.slice none 0 0)] none false)], _] _ := b2
           refine wRo 2 2 [] 100 101 [] [(101, (.pointer (some ⟨A, 4, none⟩)))] trivial rfl fun _ => ?_
           refine aM (aD (q := 4) b2 rfl rfl rfl rfl rfl rfl rfl rfl rfl) rfl ?_
           rintro _ mL _ ⟨co, _⟩
           have co : HS _ _ _ [_, _, _, _, [(A, .cells [(iI z), (iI ja), (iI jb), (iI jc), (iI av), (.slice none 0 0)] none false)], _] _ := co
           refine ae 2 rfl ?_
           refine wR 2 [(2, .o (iI av))] 102 105 [13] [(13, (iI (2 - av)))] (vA (ql 2 4 (HS.hc co (i := 4) rfl) rfl rfl) (vA (vi (n := 2 - av) (by omega)) trivial)) rfl fun _ => ?_
           have es := HS.snoc co
           have es : HS _ _ _ [_, _, _, _, _, _, []] _ := es
           refine ap (fun (mm : Nat) f H' => ∃ (kk : Int) (al : List Int) (dl : DigT) (V : Fp) (N : Option Addr) (U : Nat) (F' : Fz), Fz.le hX F' ∧ HS (Base.of H []) F' H' [b5, b7, [(E, .cells [(iI dl.n)] none false)], p8, [(A, .cells [(iI z), (iI ja), (iI jb), (iI jc), (iI av), (.slice N al.length U)] none false)], b9, V] R ∧ OS F' (.slice N al.length U) al V ∧ aI f [(3, (.pointer (some ⟨b1, 0, none⟩))), (4, (.pointer (some ⟨b3, 0, none⟩))), (5, (.pointer (some ⟨E, 0, none⟩))), (9, (.pointer (some ⟨A, 0, none⟩))), (13, (iI kk))] ∧ mm = kk.toNat ∧ ((al.length : Int) + kk = 2 - av ∧ 0 ≤ kk) ∧ (al.all (aK c.regs) = true) ∧ (in64 dl.n) ∧ (kk ≤ 2)) _ ⟨2 - av, ([] : List Int), (⟨g6.n⟩ : DigT), [], none, 0, _, fR, es, (OS.nil : OS hX (.slice none 0 0) ([] : List Int) []), (agC rfl (agC rfl (agC rfl (agC rfl (agC rfl agN))))), rfl, (by simp; omega), (by rfl), (by first | assumption | omega | (simp at *; omega)), (by first | assumption | omega | (simp at *; omega))⟩ ?_
           rintro lQ mU mM ⟨kk, al, dl, V, N, U, l3, dn, ay, Z, ht, rfl, q1, q2, q3, q4⟩ i3
           refine au _ ht (fun _ => ?_)
           clear ht
           replace hT := (hT.mono hh).mono dn
           refine aj 2 rfl ?_
           refine wR 1 [] 106 107 [] [(107, (.bool (decide ((0 : Int) < kk))))] trivial rfl fun _ => ?_
           refine ak 3 3 (v := (decide ((0 : Int) < kk))) rfl rfl rfl rfl (fun f7 => ?_) (fun f7 => ?_)
           ·
            try simp only [BS] at f7
            refine bc rfl ?_
            refine am (v := (.pointer (some ⟨A, 5, none⟩))) (id := .v) (dA rfl rfl) rfl rfl (br rfl) (be _) ?_
            refine am (v := (.slice N al.length U)) (id := .l A) (bN (i := 5) rfl rfl (HS.hc ay.log0 (i := 4) rfl) rfl rfl) rfl rfl (bT rfl) (⟨.inl rfl, trivial⟩) ?_
            refine fm (.pointer (some ⟨E, 0, none⟩)) rfl rfl rfl ?_
            refine am (v := (.pointer (some ⟨b1, 1, none⟩))) (id := .v) (dA rfl rfl) rfl rfl (br rfl) (be _) ?_
            refine am (v := (iI c.regs)) (id := .l b1) (bN (i := 1) rfl rfl (HS.hc ay.log0 (i := 0) rfl) rfl rfl) rfl rfl (bT rfl) (⟨.inl rfl, ⟨.inr trivial, ⟨.inr trivial, ⟨.inr trivial, trivial⟩⟩⟩⟩) ?_
            refine aX (W := [E]) (ah rfl rfl rfl) rfl rfl rfl (cB ex (⟨dl.n⟩ : DigT) c.regs (HS.callOwn ay.log0 (i := 2) rfl) (by omega) (by omega) hT (by omega)) (⟨.inl rfl, ⟨.inl rfl, ⟨.inl rfl, ⟨.inr (HS.nin ay (i := 4) (j := 2) rfl rfl (by decide) (by simp)), ⟨.inr trivial, trivial⟩⟩⟩⟩⟩) ?_
            rintro _ kz ⟨b4, g7, l4, hj, ad, rfl, lD, nh⟩
            refine ⟨HS.didW ad, fun jw hQ => ?_⟩
            replace ad := HS.backOwn ay.log0 (i := 2) rfl rfl (fun _ hb => hb) ad
            replace ad := HS.lg ad ay hQ
            generalize ({ kz with log := jw } : Heap) = lG at ad ⊢
            have ad : HS _ _ _ [_, _, [(E, .cells [(iI g7.n)] none false)], _, [(A, .cells [(iI z), (iI ja), (iI jb), (iI jc), (iI av), (.slice N al.length U)] none false)], _, V] _ := ad
            replace Z := Z.mono hj
            refine dC (id := .a) (bA (α := Int) (ps := [(0, (iI b4))]) (cells := [(iI b4)]) ([b4] : List Int) ad.log0 rfl rfl rfl (by kernel_rfl) ⟨[(iI b4)], [], rfl, ⟨rfl, by first | omega | (dsimp only; omega)⟩, rfl⟩ rfl) rfl rfl (fun _ _ _ _ => did_a rfl rfl rfl) (⟨.inl rfl, ⟨.inl rfl, ⟨.inl rfl, ⟨.inl rfl, ⟨.inr trivial, ⟨.inr trivial, trivial⟩⟩⟩⟩⟩⟩) ?_
            rintro _ k0 lE ⟨mO, nj, rfl, i1, an, _⟩ j0 hR
            replace an := HS.lg an ad hR
            generalize ({ k0 with log := j0 } : Heap) = lH at an ⊢
            have an : HS _ _ _ [_, _, _, _, _, _, _, lE] _ := an
            refine dC (id := .x (V.map Prod.fst)) (bW (α := Int) (q := 6) Z an.log0 rfl rfl rfl (OS.sv i1 an.log0 (i := 7) rfl) rfl rfl rfl rfl rfl rfl rfl (by first | omega | (simp only [List.length_append, List.length_cons, List.length_nil]; omega))) rfl rfl (by rintro _ _ hI ⟨e4, hF, rfl, hu, _, hwr⟩; exact dP rfl rfl (Wr.did hwr)) (⟨.inl rfl, ⟨.inl rfl, ⟨.inl rfl, ⟨.inl rfl, ⟨.inl rfl, ⟨.inl rfl, ⟨.inl rfl, trivial⟩⟩⟩⟩⟩⟩⟩) ?_
            rintro _ k3 hI ⟨e4, hF, rfl, hu, a0, _⟩ j1 hS
            replace a0 := HS.lg a0 an hS
            generalize ({ k3 with log := j1 } : Heap) = lI at a0 ⊢
            have a0 : HS _ _ _ [_, _, _, _, _, _, hI, _] _ := a0
            refine am (v := (.pointer (some ⟨A, 5, none⟩))) (id := .v) (dA rfl rfl) rfl rfl (br rfl) (be _) ?_
            refine ku (id := .x [A]) (aD (q := 4) a0.log0 rfl rfl rfl rfl rfl rfl rfl rfl rfl) rfl (by rintro _ _ _ ⟨_, hwr⟩; exact dP rfl rfl (Wr.did hwr)) (⟨.inl rfl, ⟨.inl rfl, ⟨.inl rfl, ⟨.inl rfl, ⟨.inl rfl, ⟨.inl rfl, ⟨.inl rfl, ⟨.inl rfl, ⟨.inl rfl, trivial⟩⟩⟩⟩⟩⟩⟩⟩⟩) ?_
            rintro _ k4 _ ⟨a4, _⟩ j2 hV
            replace a4 := HS.lg a4 a0 hV
            generalize ({ k4 with log := j2 } : Heap) = lJ at a4 ⊢
            have a4 : HS _ _ _ [_, _, _, _, [(A, .cells [(iI z), (iI ja), (iI jb), (iI jc), (iI av), (.slice e4 (al ++ ([b4] : List Int)).length hF)] none false)], _, _, _] _ := a4
            refine cz ?_
            refine aj 2 rfl ?_
            refine wR 1 [] 108 109 [13] [(13, (iI (kk - 1)))] (vA (vi (n := kk - 1) (by omega)) trivial) rfl fun _ => ?_
            refine i3 _ _ _ ?_ ⟨kk - 1, al ++ ([b4] : List Int), (⟨g7.n⟩ : DigT), hI, e4, hF, _, (fT (dn) hj), (HS.sub a4 (List.sublist_append_left _ _)), hu, (agC rfl (agC rfl (agC rfl (agC rfl (agC rfl agN))))), rfl, (by simp; omega), (by exact all_app q2 (aV.2 (by omega))), (by first | assumption | omega | (simp at *; omega)), (by first | assumption | omega | (simp at *; omega))⟩
            omega
           ·
            try simp only [BS] at f7
            obtain ⟨l5, iz, et, i2, lO⟩ := OS.frz Z ay (i := 6) rfl
            have et : HS _ _ _ [_, _, [(E, .cells [(iI dl.n)] none false)], _, [(A, .cells [(iI z), (iI ja), (iI jb), (iI jc), (iI av), (.slice N al.length U)] none false)], _, _] _ := et
            exact a5 _ _ ⟨av, al, (⟨dl.n⟩ : DigT), N, U, _, (fT (fT (hh) dn) iz), (HS.sub et (List.sublist_append_left _ _)), i2, (agC rfl (agC rfl agN)), (by exact immT (by omega)), (by first | assumption | omega | (simp at *; omega)), (by first | omega | (simp <;> omega)), (by first | assumption | rfl), (by first | omega | (simp <;> omega)), (by first | assumption | omega | (simp at *; omega))⟩
          ·
           try simp only [BS] at f6
           exact a5 _ _ ⟨0, ([] : List Int), (⟨a1.n⟩ : DigT), none, 0, _, fR, Y, (SR.nil : SR hW (.slice none 0 0) ([] : List Int)), (agC rfl (agC rfl agN)), (by exact immT (by omega)), (by first | assumption | omega | (simp at *; omega)), (by first | omega | (simp <;> omega)), (by first | assumption | rfl), (by first | omega | (simp <;> omega)), (by first | assumption | omega | (simp at *; omega))⟩
     ·
      rintro mT mA ⟨jq, asl, e1, J, T, l1, ii, hw, c8, hq, hjq, rjq, h2, c5, hck, lV⟩
      refine au _ hq (fun _ => ?_)
      clear hq
      refine aj 3 rfl ?_
      refine aa ?_
      let hM : Value := (.agg ⟨[(iI z), (iI ja), (iI jb), (iI jc), (iI jq), (.slice J asl.length T)]⟩)
      refine wRo 1 0 [(0, .o hM)] 119 119 [] [(119, hM)] (vA (qn 47 0 6 (HS.hc hw (i := 4) rfl) rfl rfl rfl rfl) trivial) rfl fun _ => ?_
      refine aM (aD (q := 1) hw rfl rfl rfl rfl rfl rfl rfl rfl rfl) rfl ?_
      rintro _ mN _ ⟨c0, _⟩
      have c0 : HS _ _ _ [_, [(b3, .cells [(iI z), (iI ja), (iI jb), (iI jc), (iI jq), (.slice J asl.length T)] none false)], [(E, .cells [(iI e1.n)] none false)], _, [(A, .cells [(iI z), (iI ja), (iI jb), (iI jc), (iI jq), (.slice J asl.length T)] none false)], _] _ := c0
      refine ae 1 rfl ?_
      refine ag ⟨.inr rfl, _, (rC rfl (ldVN rfl rfl (HS.hc c0 (i := 1) rfl) rfl) rN), (⟨(⟨z, ja, jb, jc, jq⟩ : InsT), asl⟩ : VInT), J, T, _, (fT (fT (fT (fT (fT (fT (dd) dk) g8) g9) ha) he) ii), (HS.forget c0), rfl, (by first | omega | (dsimp only; omega)), (by first | omega | (dsimp only; omega)), (by first | omega | (dsimp only; omega)), (by first | omega | (dsimp only; omega)), (by first | omega | (dsimp only; omega)), c8, (by exact vin_mk ho.2 h2.1 h2.2 c5 hja hjb hjc hjq), (by exact decide_eq_true hck)⟩
end Go.Proofs.YtlabedbmgmfbaaaDoor.m4
