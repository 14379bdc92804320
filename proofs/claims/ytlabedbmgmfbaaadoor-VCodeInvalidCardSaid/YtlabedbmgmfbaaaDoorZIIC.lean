/-
 The interpreter of virtual code, step by step, by symbolic runs. No condition but that the table lies as laid.
-/
import Derived.Test.YtlabedbmgmfbaaaDoorZIIB
noncomputable section
namespace Go.Proofs.YtlabedbmgmfbaaaDoor.ic
open Go.R
set_option maxRecDepth 10000
set_option linter.unusedVariables false
open m1 m2 m3 m4 m5 m6 m7 m8 iw ia ib
theorem vP {F : Fz} {get : Nat → Option AObj} {v : Value} {l : List PtrT} {cf : Nat → List Value} {j : Nat} (h : VW F get v l cf j) (hj : j < l.length) : HC get (sB v) (sO v + j * Rp.sz PtrT) [.pointer (some ⟨(l.getD j default).b, 0, none⟩)] := by
 obtain ⟨A, z⟩ := h.1 default hj
 rw [show cf j = _ from A] at z; exact z
theorem ptq {P : Program} {H : Heap} {t : TypeId} {a : Value} {x y : PtrT} (e : x = y) (h : LDv P H t a (.pointer (some ⟨x.b, 0, none⟩))) : LDv P H t a (.pointer (some ⟨y.b, 0, none⟩)) := e ▸ h
theorem hcq {get : Nat → Option AObj} {b o : Nat} {x y : PtrT} (e : x = y) (h : HC get b o [.pointer (some ⟨x.b, 0, none⟩)]) : HC get b o [.pointer (some ⟨y.b, 0, none⟩)] := e ▸ h
theorem jH (ex : FuncId) {F : Fz} {b : Nat} {E c1 c2 I J O T : Value} {ra : Option Addr} {rn rk : Nat} (regs : List Int) (n : Int) (H : Heap) (hc : HC H.get b 0 [E, c1, c2, .slice ra rn rk, I, J, O, T]) (hv : Sv F H.get (.slice ra rn rk) regs) (hn : 0 ≤ n ∧ n < 4000) (hl : regs.length ≤ 4000) : C Tryd.prog 1 (KT 60 ex 37 tabC) 87 [.pointer (some ⟨b, 0, none⟩), .int .i64 n] H fun v H' => ∃ (r : Int), H' = H ∧ v = .int .i64 r ∧ r = bo regs n := by
 have ln := Sv.nlen hv
 refine aJ Tryd.func87 rfl rfl ?_
 refine ao 1 rfl ?_
 refine wR 3 [] 4 4 [] [(4, (iI 0))] trivial rfl fun _ => ?_
 refine wR 1 [(4, .o (.slice ra rn rk))] 5 11 [] [(11, (.bool (decide ((rn : Int) ≤ n))))] (vA (ql 52 3 hc rfl rfl) trivial) rfl fun _ => ?_
 refine aj 1 2 (v := (decide ((rn : Int) ≤ n))) rfl rfl rfl rfl (fun A => ?_) (fun A => ?_)
 ·
  try simp only [BS] at A
  refine wR 1 [] 4 4 [] [(4, (iI 0))] trivial rfl fun _ => ?_
  refine ah ⟨.inr rfl, _, rfl, 0, rfl, rfl, (by exact get_out (by omega))⟩
 ·
  try simp only [BS] at A
  obtain ⟨U, z⟩ := Sv.view hv
  have V := fI (z n.toNat)
  refine wR 1 [(3, .o (.slice ra rn rk)), (6, .o (iI (regs.getD n.toNat 0)))] 12 18 [4] [(4, (iI (regs.getD n.toNat 0)))] (vA (ql 52 3 hc rfl rfl) (vA (Sv.ix (j := n) hv (by omega) (by omega)) (vA (ql 2 0 (vI (z n.toNat) (by omega)) rfl rfl) trivial))) rfl fun _ => ?_
  refine ah ⟨.inr rfl, _, rfl, (regs.getD n.toNat 0), rfl, rfl, (by rfl)⟩
theorem fb (ex : FuncId) {F : Fz} {b : Nat} {z c1 c2 A E I J : Value} {ra : Option Addr} {rn rk : Nat} (regs : List Int) (n : Int) (H : Heap) (hc : HC H.get b 0 [z, c1, c2, .slice ra rn rk, A, E, I, J]) (hv : Sv F H.get (.slice ra rn rk) regs) (hn : 0 ≤ n ∧ n < 4000) (hl : regs.length ≤ 4000) : C Tryd.prog 1 (KT 60 ex 37 tabC) 87 [.pointer (some ⟨b, 0, none⟩), .int .i64 n] H fun v H' => v = .int .i64 (bo regs n) ∧ H' = H :=
 cq (jH ex regs n H hc hv hn hl) (by rintro _ _ ⟨_, rfl, rfl, rfl⟩; exact ⟨rfl, rfl⟩)
theorem cell_c (ex : FuncId) {F : Fz} {b : Nat} {E c2 I J O z T U : Value} {ca : Option Addr} {cn ck : Nat} (hs : List Hd) (row : List Int) (ar at_ : Int) (H : Heap) (hc : HC H.get b 0 [E, .slice ca cn ck, c2, I, J, O, z, T, U]) (hv : Sv F H.get (.slice ca cn ck) hs) (hw : Sv F H.get (.slice (hs.getD ar.toNat default).a (hs.getD ar.toNat default).n (hs.getD ar.toNat default).k) row) (ha : 0 ≤ ar ∧ ar < (hs.length : Int)) (hr : row.length ≤ 16) : C Tryd.prog 1 (KT 60 ex 37 tabC) 97 [.pointer (some ⟨b, 0, none⟩), .int .i64 ar, .int .i64 at_] H fun v H' => H' = H ∧ v = .pointer (cellA (hs.getD ar.toNat default) at_) := by
 have ln := Sv.nlen hv
 have lw := Sv.nlen hw
 refine aJ Tryd.func97 rfl rfl ?_
 refine ao 1 rfl ?_
 refine wR 2 [] 6 6 [] [(6, (.pointer none))] trivial rfl fun _ => ?_
 obtain ⟨V, A⟩ := Sv.view hv
 refine wR 3 [(3, .o (.slice ca cn ck)), (6, .o (.slice (hs.getD ar.toNat default).a (hs.getD ar.toNat default).n (hs.getD ar.toNat default).k))] 8 14 [7] [(7, (.slice (hs.getD ar.toNat default).a (hs.getD ar.toNat default).n (hs.getD ar.toNat default).k))] (vA (ql 99 1 hc rfl rfl) (vA (Sv.ix (j := ar) hv (by omega) (by omega)) (vA (ql 52 0 (vH (A ar.toNat) (by omega)) rfl rfl) trivial))) rfl fun _ => ?_
 refine wR 1 [] 15 22 [] [(22, (.bool ((decide (at_ < 0)) || (decide (((hs.getD ar.toNat default).n : Int) ≤ at_)))))] trivial rfl fun _ => ?_
 refine aj 1 2 (v := ((decide (at_ < 0)) || (decide (((hs.getD ar.toNat default).n : Int) ≤ at_)))) rfl rfl rfl rfl (fun z => ?_) (fun z => ?_)
 ·
  try simp only [BS] at z
  refine wR 1 [] 6 6 [] [(6, (.pointer none))] trivial rfl fun _ => ?_
  exact ah ⟨.inr rfl, _, rfl, rfl, (congrArg Value.pointer (kN (by omega)).symm)⟩
 ·
  try simp only [BS] at z
  refine wR 1 [] 23 25 [6] [(6, (.pointer (some ⟨sB (.slice (hs.getD ar.toNat default).a (hs.getD ar.toNat default).n (hs.getD ar.toNat default).k), sO (.slice (hs.getD ar.toNat default).a (hs.getD ar.toNat default).n (hs.getD ar.toNat default).k) + at_.toNat * Rp.sz Int, none⟩)))] (vA (Sv.ix (j := at_) hw (by omega) (by omega)) trivial) rfl fun _ => ?_
  exact ah ⟨.inr rfl, _, rfl, rfl, (congrArg Value.pointer (cell_in (by omega)).symm)⟩
theorem cell_c_q (ex : FuncId) {F : Fz} {b : Nat} {z c2 A E I J O T : Value} {ca : Option Addr} {cn ck : Nat} (hs : List Hd) (row : List Int) (ar at_ : Int) (H : Heap) (hc : HC H.get b 0 [z, .slice ca cn ck, c2, A, E, I, J, O, T]) (hv : Sv F H.get (.slice ca cn ck) hs) (hw : Sv F H.get (.slice (hs.getD ar.toNat default).a (hs.getD ar.toNat default).n (hs.getD ar.toNat default).k) row) (ha : 0 ≤ ar ∧ ar < (hs.length : Int)) (hr : row.length ≤ 16) : C Tryd.prog 1 (KT 60 ex 37 tabC) 97 [.pointer (some ⟨b, 0, none⟩), .int .i64 ar, .int .i64 at_] H fun v H' => v = .pointer (cellA (hs.getD ar.toNat default) at_) ∧ H' = H :=
 cq (cell_c ex hs row ar at_ H hc hv hw ha hr) (by rintro _ _ ⟨rfl, rfl⟩; exact ⟨rfl, rfl⟩)
theorem i0 (ex : FuncId) {F : Fz} {H : Heap} {R : List Fp} {b : Nat} {O c1 c2 T U V Z : Value} {ra : Option Addr} {rn rk : Nat} {p : Fp} (regs : List Int) (n x : Int) (hs : HS (.of H ((([(b, .cells [O, c1, c2, .slice ra rn rk, T, U, V, Z] none false)] : Fp) ++ p).map Prod.fst)) F H [[(b, .cells [O, c1, c2, .slice ra rn rk, T, U, V, Z] none false)], p] R) (hr : OS F (.slice ra rn rk) regs p) (hn : 0 ≤ n ∧ n < 4000) (hl : regs.length ≤ 4000) (hx : in64 x) : C Tryd.prog 1 (KT 60 ex 37 tabC) 96 [.pointer (some ⟨b, 0, none⟩), .int .i64 n, .int .i64 x] H fun v H' => ∃ (ra' : Option Addr) (rn' rk' : Nat) (p' : Fp) (F' : Fz), F.le F' ∧ HS (.of H ((([(b, .cells [O, c1, c2, .slice ra rn rk, T, U, V, Z] none false)] : Fp) ++ p).map Prod.fst)) F' H' [[(b, .cells [O, c1, c2, .slice ra' rn' rk', T, U, V, Z] none false)], p'] R ∧ v = .tuple #[] ∧ OS F' (.slice ra' rn' rk') (setV regs n x) p' := by
 obtain rfl := OS.nlen hr
 refine aJ Tryd.func96 rfl rfl ?_
 refine ao 2 rfl ?_
 refine aE (fun (mm : Nat) f H' => ∃ (rg : List Int) (E : Fp) (z : Option Addr) (A : Nat) (F' : Fz), Fz.le F F' ∧ HS (Base.of H ((([(b, .cells [O, c1, c2, .slice ra regs.length rk, T, U, V, Z] none false)] : Fp) ++ p).map Prod.fst)) F' H' [[(b, .cells [O, c1, c2, (.slice z rg.length A), T, U, V, Z] none false)], E] R ∧ OS F' (.slice z rg.length A) rg E ∧ aS f [(0, (.pointer (some ⟨b, 0, none⟩))), (1, (iI n)), (2, (iI x))] ∧ mm = n.toNat + 1 - rg.length ∧ (rg = regs ++ List.replicate (rg.length - regs.length) 0) ∧ ((rg.length : Int) ≤ n + 1 ∨ rg.length = regs.length) ∧ (regs.length ≤ rg.length)) _ ⟨regs, p, ra, rk, _, fR, hs, hr, (agC rfl (agC rfl (agC rfl agN))), rfl, (by simp), (by exact .inr rfl), (by exact Nat.le_refl _)⟩ ?_
 rintro b6 f1 H1 ⟨rg, E, z, A, F1, av, J, I, a0, rfl, h1, h2, h3⟩ a9
 refine aF _ a0 (fun _ => ?_)
 clear a0
 refine ao 2 rfl ?_
 refine wR 1 [(3, .o (.slice z rg.length A))] 6 12 [] [(12, (.bool (decide ((rg.length : Int) ≤ n))))] (vA (ql 52 3 (HS.hc J (i := 0) rfl) rfl rfl) trivial) rfl fun _ => ?_
 refine aj 2 4 (v := (decide ((rg.length : Int) ≤ n))) rfl rfl rfl rfl (fun c3 => ?_) (fun c3 => ?_)
 ·
  try simp only [BS] at c3
  refine ab ?_
  refine wRo 5 0 [(4, .o (.slice z rg.length A))] 13 17 [] [(13, (.pointer (some ⟨b, 0, none⟩))), (17, (.slice z rg.length A))] (vA (ql 52 3 (HS.hc J (i := 0) rfl) rfl rfl) trivial) rfl fun _ => ?_
  refine aP (bZ (α := Int) (ps := [(0, (iI 0))]) (cells := [(iI 0)]) ([0] : List Int) J rfl rfl rfl (by kernel_rfl) ⟨[(iI 0)], [], rfl, ⟨rfl, by omega⟩, rfl⟩ rfl) rfl rfl ?_
  rintro _ H6 p5 ⟨a5, k5, rfl, a6, ap, _⟩
  have ap : HS _ _ _ [[(b, .cells [O, c1, c2, (.slice z rg.length A), T, U, V, Z] none false)], E, p5] _ := ap
  refine aP (cT (α := Int) (q := 1) I ap rfl rfl rfl (OS.sv a6 ap (i := 2) rfl) rfl rfl rfl rfl rfl rfl rfl (by simp only [List.length_cons, List.length_nil]; omega)) rfl rfl ?_
  rintro _ H8 p7 ⟨a7, k7, rfl, a8, ar, _⟩
  have ar : HS _ _ _ [_, p7, _] _ := ar
  refine wRo 2 7 [] 20 21 [] [(21, (.pointer (some ⟨b, 3, none⟩)))] trivial rfl fun _ => ?_
  refine aD (ax (q := 0) ar rfl rfl rfl rfl rfl rfl rfl rfl rfl) rfl ?_
  rintro _ b4 _ ⟨ad, _⟩
  have ad : HS _ _ _ [[(b, .cells [O, c1, c2, (.slice a7 (rg ++ ([0] : List Int)).length k7), T, U, V, Z] none false)], _, _] _ := ad
  refine ai 2 rfl ?_
  refine a9 _ _ _ ?_ ⟨rg ++ ([0] : List Int), p7, a7, k7, _, (av), (HS.sub ad (List.sublist_append_left _ _)), a8, (agC rfl (agC rfl (agC rfl agN))), rfl, (by exact set_step h1 h3), (by simp only [List.length_append, List.length_singleton]; omega), (by simp only [List.length_append, List.length_singleton]; omega)⟩
  simp only [List.length_append, List.length_singleton]; omega
 ·
  try simp only [BS] at c3
  refine ab ?_
  refine wRo 7 0 [(3, .o (.slice z rg.length A))] 22 28 [] [(27, (iI x)), (28, (.pointer (some ⟨sB (.slice z rg.length A), sO (.slice z rg.length A) + n.toNat * Rp.sz Int, none⟩)))] (vA (ql 52 3 (HS.hc J (i := 0) rfl) rfl rfl) (vA (Sv.ix (j := n) (OS.sv I J (i := 1) rfl) (by omega) (by omega)) trivial)) rfl fun _ => ?_
  refine aD (de (α := Int) (j := n.toNat) (off := 0) (q := 1) x I J rfl rfl rfl rfl rfl rfl rfl rfl (aI (x := (0 : Int)) (by omega)) rfl (by rintro cs ⟨rfl, _⟩; exact ⟨Nat.le_of_ble_eq_true rfl, rfl, by omega⟩)) rfl ?_
  rintro _ b5 bl ⟨aq, ag, _⟩
  have ag : HS _ _ _ [[(b, .cells [O, c1, c2, (.slice z rg.length A), T, U, V, Z] none false)], bl] _ := ag
  have b1 := OS.len' aq
  refine ai 0 rfl ?_
  have hfin : rg.set n.toNat x = setV regs n x := set_fin h1 h2 h3 (by omega) hn.1
  have hfo := aq
  rw [hfin] at hfo
  exact am ⟨.inl rfl, _, rfl, _, _, _, _, _, (av), HS.sub ag (List.sublist_append_left _ _), rfl, hfo⟩
theorem jO (ex : FuncId) {F : Fz} {H : Heap} {R : List Fp} {b : Nat} {z c1 c2 A c4 Z V E U : Value} (k c x : Int) (hs : HS (.of H [b]) F H [[(b, .cells [z, c1, c2, A, c4, Z, V, E, U] none false)]] R) : C Tryd.prog 1 (KT 60 ex 37 tabC) 86 [.pointer (some ⟨b, 0, none⟩), .int .i64 k, .int .i64 c, .int .i64 x] H fun v H' => HS (.of H [b]) F H' [[(b, .cells [z, c1, c2, A, .bool true, .int .i64 k, .int .i64 c, E, .int .i64 x] none false)]] R ∧ v = .tuple #[] := by
 refine aJ Tryd.func86 rfl rfl ?_
 refine ao 1 rfl ?_
 refine ab ?_
 refine wRo 3 0 [] 8 10 [] [(10, (.pointer (some ⟨b, 4, none⟩)))] trivial rfl fun _ => ?_
 refine aD (ax (q := 0) hs rfl rfl rfl rfl rfl rfl rfl rfl rfl) rfl ?_
 rintro _ H2 _ ⟨I, _⟩
 have I : HS _ _ _ [[(b, .cells [z, c1, c2, A, (.bool true), Z, V, E, U] none false)]] _ := I
 refine ai 1 rfl ?_
 refine ab ?_
 refine wRo 9 0 [] 11 19 [] [(12, (.pointer (some ⟨b, 0, none⟩))), (13, (.pointer (some ⟨b, 0, none⟩))), (14, (iI k)), (15, (iI c)), (16, (iI x)), (19, (.pointer (some ⟨b, 5, none⟩)))] trivial rfl fun _ => ?_
 refine aD (ax (q := 0) I rfl rfl rfl rfl rfl rfl rfl rfl rfl) rfl ?_
 rintro _ H4 _ ⟨J, _⟩
 have J : HS _ _ _ [[(b, .cells [z, c1, c2, A, (.bool true), (iI k), V, E, U] none false)]] _ := J
 refine wRo 3 10 [] 20 22 [] [(22, (.pointer (some ⟨b, 6, none⟩)))] trivial rfl fun _ => ?_
 refine aD (ax (q := 0) J rfl rfl rfl rfl rfl rfl rfl rfl rfl) rfl ?_
 rintro _ H6 _ ⟨O, _⟩
 have O : HS _ _ _ [[(b, .cells [z, c1, c2, A, (.bool true), (iI k), (iI c), E, U] none false)]] _ := O
 refine wRo 3 14 [] 23 25 [] [(25, (.pointer (some ⟨b, 8, none⟩)))] trivial rfl fun _ => ?_
 refine aD (ax (q := 0) O rfl rfl rfl rfl rfl rfl rfl rfl rfl) rfl ?_
 rintro _ H8 _ ⟨T, _⟩
 have T : HS _ _ _ [[(b, .cells [z, c1, c2, A, (.bool true), (iI k), (iI c), E, (iI x)] none false)]] _ := T
 refine ai 0 rfl ?_
 exact am ⟨.inl rfl, _, rfl, T, rfl⟩
end Go.Proofs.YtlabedbmgmfbaaaDoor.ic
