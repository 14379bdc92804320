/-
 Outcomes compared, by a symbolic run. No condition but bounds on lengths.
-/
import Derived.Test.YtlabedbmgmfbaaaDoorZDIR
noncomputable section
namespace Go.Proofs.YtlabedbmgmfbaaaDoor.it
open Go.R
set_option maxRecDepth 10000
set_option linter.unusedVariables false
open m1 m2 m6 m7 iw ia ib id_ ir
theorem so_no {a b : OutT} (h : ¬ (a.kind = b.kind ∧ a.code = b.code ∧ a.val = b.val ∧ a.out = b.out)) : false = decide (a = b) := (decide_eq_false fun e => h (by subst e; exact ⟨rfl, rfl, rfl, rfl⟩)).symm
theorem so_yes {a b : OutT} {k : Nat} (z : a.kind = b.kind) (A : a.code = b.code) (I : a.val = b.val) (hl : a.out.length = b.out.length) (h : ∀ j, j < k → a.out.getD j 0 = b.out.getD j 0) (hk : a.out.length ≤ k) : true = decide (a = b) := by
 have e := of_decide_eq_true (same_yes hl h hk).symm
 cases a; cases b; simp only at z A I e; subst z A I e; exact (decide_eq_true rfl).symm
theorem same_c (ex : FuncId) {I : Option Addr} {J : Nat} (a : OutT) {O : Option Addr} {T : Nat} (b : OutT) {F : Fz} {H : Heap} {R : List Fp} (hs : HS (.of H []) F H [] R) (a8 : in64 a.kind) (a9 : in64 a.code) (U : SR F (.slice I a.out.length J) a.out) (bb : in64 a.val) (bj : in64 b.kind) (bl : in64 b.code) (V : SR F (.slice O b.out.length T) b.out) (b0 : in64 b.val) (hT : TB 37 tabC F) (hlen : a.out.length ≤ 1073741824) : C Tryd.prog 1 (KT 60 ex 37 tabC) 37 [(.agg ⟨[(iI a.kind), (iI a.code), (.slice I a.out.length J), (iI a.val)]⟩), (.agg ⟨[(iI b.kind), (iI b.code), (.slice O b.out.length T), (iI b.val)]⟩)] H fun v H' => ∃ (r : Bool) (F' : Fz), Fz.le F F' ∧ HS (.of H []) F' H' [] R ∧ v = .bool r ∧ r = decide (a = b) := by
 refine aL Tryd.func37 rfl rfl ?_
 refine ao 1 rfl ?_
 refine ab ?_
 refine aR (cw hs rfl rfl) rfl rfl ?_
 rintro _ H2 _ ⟨b1, rfl, aq, _⟩
 let a1 : Fp := [(b1, .cells [(iI a.kind), (iI a.code), (.slice I a.out.length J), (iI a.val)] none false)]
 have aq : HS _ _ _ [a1] _ := aq
 refine aR (cw aq rfl rfl) rfl rfl ?_
 rintro _ H4 _ ⟨b3, rfl, z, _⟩
 let a2 : Fp := [(b3, .cells [(iI b.kind), (iI b.code), (.slice O b.out.length T), (iI b.val)] none false)]
 have z : HS _ _ _ [_, a2] _ := z
 refine wa (.bool false) rfl rfl rfl ?_
 refine ai 3 rfl ?_
 refine wR 1 [(1, .o (iI a.kind)), (3, .o (iI b.kind)), (7, .o (iI a.code)), (9, .o (iI b.code)), (14, .o (iI a.val)), (16, .o (iI b.val)), (21, .o (.slice I a.out.length J)), (24, .o (.slice O b.out.length T))] 6 33 [] [(33, (.bool ((((a.kind != b.kind) || (a.code != b.code)) || (a.val != b.val)) || ((a.out.length : Int) != (b.out.length : Int)))))] (vA (ql 3 0 (HS.hc z (i := 0) rfl) rfl rfl) (vA (ql 3 0 (HS.hc z (i := 1) rfl) rfl rfl) (vA (fun (g1 : (a.kind != b.kind) = false) => (ql 3 1 (HS.hc z (i := 0) rfl) rfl rfl)) (vA (fun (g1 : (a.kind != b.kind) = false) => (ql 3 1 (HS.hc z (i := 1) rfl) rfl rfl)) (vA (fun (g1 : ((a.kind != b.kind) || (a.code != b.code)) = false) => (ql 2 3 (HS.hc z (i := 0) rfl) rfl rfl)) (vA (fun (g1 : ((a.kind != b.kind) || (a.code != b.code)) = false) => (ql 2 3 (HS.hc z (i := 1) rfl) rfl rfl)) (vA (fun (g1 : (((a.kind != b.kind) || (a.code != b.code)) || (a.val != b.val)) = false) => (ql 52 2 (HS.hc z (i := 0) rfl) rfl rfl)) (vA (fun (g1 : (((a.kind != b.kind) || (a.code != b.code)) || (a.val != b.val)) = false) => (ql 52 2 (HS.hc z (i := 1) rfl) rfl rfl)) trivial)))))))) rfl fun _ => ?_
 refine am 1 3 (v := ((((a.kind != b.kind) || (a.code != b.code)) || (a.val != b.val)) || ((a.out.length : Int) != (b.out.length : Int)))) rfl rfl rfl rfl (fun c6 => ?_) (fun c6 => ?_)
 ·
  try simp only [BS] at c6
  have hc := c6
  refine wR 1 [] 4 4 [] [(4, (.bool false))] trivial rfl fun _ => ?_
  refine ah ⟨.inr rfl, _, rfl, false, _, fR, (HS.forget z), rfl, (by exact so_no (fun hh => by obtain ⟨q1, q2, q3, q4⟩ := hh; have q5 := congrArg List.length q4; omega))⟩
 ·
  try simp only [BS] at c6
  have hc := c6
  refine wR 2 [] 1 0 [5] [(5, (iI 0))] trivial rfl fun _ => ?_
  refine aC (fun (mm : Nat) f H' => ∃ (k : Nat) (F' : Fz), Fz.le F F' ∧ HS (Base.of H []) F' H' [a1, a2] R ∧ aT f [(2, (.pointer (some ⟨b1, 0, none⟩))), (3, (.pointer (some ⟨b3, 0, none⟩))), (5, (iI (k : Int)))] ∧ mm = a.out.length - k ∧ (k ≤ a.out.length) ∧ (∀ j, j < k → a.out.getD j 0 = b.out.getD j 0)) _ ⟨0, _, fR, z, (agC rfl (agC rfl (agC rfl agN))), rfl, (by first | assumption | omega | (simp at *; omega)), (by intro j hj; omega)⟩ ?_
  rintro b7 f9 H9 ⟨k, F9, Z, A, a0, rfl, hk, hj⟩ a5
  refine aH _ a0 (fun _ => ?_)
  clear a0
  replace U := U.mono Z
  replace V := V.mono Z
  refine ao 2 rfl ?_
  refine wR 1 [(2, .o (.slice I a.out.length J))] 34 38 [] [(38, (.bool (decide ((k : Int) < (a.out.length : Int)))))] (vA (ql 52 2 (HS.hc A (i := 0) rfl) rfl rfl) trivial) rfl fun _ => ?_
  refine am 4 5 (v := (decide ((k : Int) < (a.out.length : Int)))) rfl rfl rfl rfl (fun ad => ?_) (fun ad => ?_)
  ·
   try simp only [BS] at ad
   obtain ⟨a6, ar⟩ := Sv.view (SR.sv U A)
   have b5 := fI (ar k)
   obtain ⟨a7, av⟩ := Sv.view (SR.sv V A)
   have b6 := fI (av k)
   refine wRD 1 [(1, .o (.slice I a.out.length J)), (4, .o (iI (a.out.getD k 0))), (6, .o (.slice O b.out.length T)), (9, .o (iI (b.out.getD k 0)))] 41 51 [] [(51, (.bool ((a.out.getD k 0) != (b.out.getD k 0))))] (vA (ql 52 2 (hc0 (HS.hc A (i := 0) rfl)) rfl rfl) (vA (Sv.ix (j := (k : Int)) (SR.sv U A) (by omega) (by omega)) (vA (ql 2 0 (hc0 (vI (ar k) (by omega))) rfl rfl) (vA (ql 52 2 (hc0 (HS.hc A (i := 1) rfl)) rfl rfl) (vA (Sv.ix (j := (k : Int)) (SR.sv V A) (by omega) (by omega)) (vA (ql 2 0 (hc0 (vI (av k) (by omega))) rfl rfl) trivial)))))) rfl rfl fun _ => ?_
   refine am 1 2 (v := ((a.out.getD k 0) != (b.out.getD k 0))) rfl rfl rfl rfl (fun ag => ?_) (fun ag => ?_)
   ·
    try simp only [BS] at ag
    refine wR 1 [] 4 4 [] [(4, (.bool false))] trivial rfl fun _ => ?_
    refine ah ⟨.inr rfl, _, rfl, false, _, (Z), (HS.forget A), rfl, (by exact so_no (fun hh => by have q5 : a.out.getD k 0 = b.out.getD k 0 := congrArg (fun l => List.getD l k 0) hh.2.2.2; omega))⟩
   ·
    try simp only [BS] at ag
    refine wR 1 [] 39 40 [5] [(5, (iI ((k : Int) + 1)))] (vA (vi (n := (k : Int) + 1) (by omega)) trivial) rfl fun _ => ?_
    refine a5 _ _ _ ?_ ⟨k + 1, _, (Z), A, (agC rfl (agC rfl (agC rfl agN))), rfl, (by first | assumption | omega | (simp at *; omega)), (by exact lt_succ hj (by first | assumption | omega))⟩
    omega
  ·
   try simp only [BS] at ad
   refine wR 1 [] 4 4 [] [(4, (.bool true))] trivial rfl fun _ => ?_
   refine ah ⟨.inr rfl, _, rfl, true, _, (Z), (HS.forget A), rfl, (by exact so_yes (by omega) (by omega) (by omega) (by omega) hj (by omega))⟩
end Go.Proofs.YtlabedbmgmfbaaaDoor.it
