/-
  Sets of registers as ascending lists, comparisons of results: the reference, function by function, each by a symbolic run. No condition but bounds on lengths.
-/
import Derived.Test.YtlabedbmgmfbaaaDoorZM5
noncomputable section
namespace Go.Proofs.YtlabedbmgmfbaaaDoor.m6
open Go.R
set_option maxRecDepth 10000
set_option linter.unusedVariables false
theorem ql {H : Heap} {b o : Nat} {cs : List Value} {w : Value} (t : TypeId) (i : Nat) (hc : HC H.get b o cs) (ha : aggOf Tryd.prog t = some false) (hv : cs[i]? = some w) : LDv Tryd.prog H t (.pointer (some ⟨b, o + i, none⟩)) w := ld1 hc ha hv
theorem qn {H : Heap} {b o : Nat} {cs l : List Value} (t : TypeId) (i n : Nat) (hc : HC H.get b o cs) (ha : aggOf Tryd.prog t = some true) (hs : szOf Tryd.prog t = some n) (hn : Nat.ble (i + n) cs.length = true) (hl : takeL (dropL cs i) n = l) : LDv Tryd.prog H t (.pointer (some ⟨b, o + i, none⟩)) (.agg ⟨l⟩) := ldN hc ha hs hn hl
open m1 m2 m3 m4 m5
def preV (l : List Int) (n : Int) : Nat := (l.takeWhile (fun x => decide (x < n))).length
def insV (l : List Int) (n : Int) : List Int := if preV l n < l.length ∧ l.getD (preV l n) 0 = n then l else l.take (preV l n) ++ [n] ++ l.drop (preV l n)
theorem pre_eq : ∀ {l : List Int} {n : Int} {k : Nat}, k ≤ l.length → (∀ j, j < k → l.getD j 0 < n) → (k < l.length → ¬ l.getD k 0 < n) → k = preV l n
  | [], n, k, hk, _, _ => by simp at hk; subst hk; rfl
  | x :: l, n, 0, _, _, h => by
    have h0 : ¬ x < n := h (by simp)
    unfold preV; rw [List.takeWhile_cons_of_neg (by simpa using h0)]; rfl
  | x :: l, n, k + 1, hk, hl, h => by
    have h0 : x < n := hl 0 (by omega)
    have := pre_eq (l := l) (n := n) (k := k) (by simpa using hk) (fun j hj => hl (j + 1) (by omega)) (fun hj => h (by simpa using hj))
    unfold preV at this ⊢
    rw [List.takeWhile_cons_of_pos (by simpa using h0), List.length_cons, ← this]
theorem ins_same {l : List Int} {n : Int} {k : Nat} (hk : k = preV l n) (h : k < l.length) (h2 : l.getD k 0 = n) : l = insV l n := by subst hk; unfold insV; rw [if_pos ⟨h, h2⟩]
theorem ins_new {l : List Int} {n : Int} {k : Nat} (hk : k = preV l n) (h : ¬ (k < l.length ∧ l.getD k 0 = n)) : l.take k ++ [n] ++ l.drop k = insV l n := by subst hk; unfold insV; rw [if_neg h]
theorem ins_len {l : List Int} {n : Int} : (insV l n).length ≤ l.length + 1 := by
  unfold insV; split
  · omega
  · simp only [List.length_append, List.length_take, List.length_drop, List.length_cons, List.length_nil]; omega
def conV (l : List Int) (n : Int) : Bool := l.any (fun x => decide (x = n))
theorem same_yes {a b : List Int} (hl : a.length = b.length) {k : Nat} (h : ∀ j, j < k → a.getD j 0 = b.getD j 0) (hk : a.length ≤ k) : true = decide (a = b) := by
  symm; apply decide_eq_true
  apply List.ext_getElem hl
  intro j h1 h2
  have := h j (by omega)
  rwa [List.getD_eq_getElem?_getD, List.getD_eq_getElem?_getD, List.getElem?_eq_getElem h1, List.getElem?_eq_getElem h2] at this
theorem same_no {a b : List Int} {k : Nat} (h : ¬ a.getD k 0 = b.getD k 0) : false = decide (a = b) := by symm; apply decide_eq_false; intro e; rw [e] at h; exact h rfl
theorem same_len {a b : List Int} (h : ¬ (a.length : Int) = (b.length : Int)) : false = decide (a = b) := by symm; apply decide_eq_false; intro e; rw [e] at h; exact h rfl
theorem lt_succ {p : Nat → Prop} {k : Nat} (h : ∀ j, j < k → p j) (c : p k) : ∀ j, j < k + 1 → p j := fun j hj => by
  rcases Nat.lt_succ_iff_lt_or_eq.1 hj with h1 | rfl
  · exact h j h1
  · exact c

theorem insert_c (ex : FuncId) {a_l : Option Addr} {k_l : Nat} (l : List Int) (n : Int) {F : Fz} {H : Heap} {R : List Fp} (hs : HS (.of H []) F H [] R) (hl : SR F (.slice a_l l.length k_l) l) (hn : in64 n) (hT : TB 37 tabC F) (hlen : l.length ≤ 1073741824) : C Tryd.prog 1 (KT 60 ex 37 tabC) 63 [(.slice a_l l.length k_l), (.int .i64 n)] H fun v H' => ∃ (ar : Option Addr) (kr : Nat) (r : List Int) (F' : Fz), Fz.le F F' ∧ HS (.of H []) F' H' [] R ∧ v = .slice ar r.length kr ∧ SR F' (.slice ar r.length kr) r ∧ r = insV l n := by
  refine c_enter Tryd.func63 rfl rfl ?_
  refine wk_foc 1 rfl ?_
  refine wr 2 [] 4 4 [] [(4, (.slice none 0 0))] trivial (by kernel_rfl) rfl fun gg1 => ?_
  refine wr 3 [] 1 0 [5] [(5, (.int .i64 0))] trivial (by kernel_rfl) rfl fun gg2 => ?_
  refine wk_loop_inv (fun (mm : Nat) f H' => ∃ (k : Nat), H' = H ∧ agrees f [(0, (.slice a_l l.length k_l)), (1, (.int .i64 n)), (4, (.slice none 0 0)), (5, (.int .i64 (k : Int)))] ∧ mm = l.length - k ∧ (k ≤ l.length) ∧ (∀ j, j < k → l.getD j 0 < n)) _ ⟨0, rfl, (agC rfl (agC rfl (agC rfl (agC rfl agN)))), rfl, (by first | assumption | omega | (simp at *; omega)), (by intro j hj; omega)⟩ ?_
  rintro mm3 f3 H ⟨k, rfl, hf3, rfl, h1, h2⟩ ih3
  refine wk_canon _ hf3 (fun gg3 => ?_)
  clear hf3
  refine wk_foc 2 rfl ?_
  obtain ⟨cf4, hv4⟩ := Sv.view (SR.sv hl hs)
  have g5 := fI (hv4 k)
  refine wr 1 [(8, .o (.int .i64 (l.getD k 0)))] 6 17 [] [(17, (.bool ((decide ((k : Int) < (l.length : Int))) && (decide ((l.getD k 0) < n)))))] (vA (fun (g1 : (decide ((k : Int) < (l.length : Int))) = true) => (Sv.ix (j := (k : Int)) (SR.sv hl hs) (by (try simp only [BS] at g1); omega) (by (try simp only [BS] at g1); omega))) (vA (fun (g1 : (decide ((k : Int) < (l.length : Int))) = true) => (ql 3 0 (vI (hv4 k) (by (try simp only [BS] at g1); omega)) rfl rfl)) trivial)) (by kernel_rfl) rfl fun gg6 => ?_
  refine wk_if 2 6 (v := ((decide ((k : Int) < (l.length : Int))) && (decide ((l.getD k 0) < n)))) rfl rfl rfl rfl (fun c7b => ?_) (fun c7b => ?_)
  · have c7 := c7b
    try simp only [BS] at c7
    refine wr 2 [] 18 19 [5] [(5, (.int .i64 ((k : Int) + 1)))] (vA (vi (n := (k : Int) + 1) (by omega)) trivial) (by kernel_rfl) rfl fun gg8 => ?_
    refine ih3 _ _ _ ?_ ⟨k + 1, rfl, (agC rfl (agC rfl (agC rfl (agC rfl agN)))), rfl, (by first | assumption | omega | (simp at *; omega)), (by exact lt_succ h2 (by omega))⟩
    omega
  · have c7 := c7b
    try simp only [BS] at c7
    have hk := pre_eq h1 h2 (by omega)
    obtain ⟨cf9, hv9⟩ := Sv.view (SR.sv hl hs)
    have g10 := fI (hv9 k)
    refine wr 1 [(8, .o (.int .i64 (l.getD k 0)))] 20 31 [] [(31, (.bool ((decide ((k : Int) < (l.length : Int))) && ((l.getD k 0) == n))))] (vA (fun (g1 : (decide ((k : Int) < (l.length : Int))) = true) => (Sv.ix (j := (k : Int)) (SR.sv hl hs) (by (try simp only [BS] at g1); omega) (by (try simp only [BS] at g1); omega))) (vA (fun (g1 : (decide ((k : Int) < (l.length : Int))) = true) => (ql 3 0 (vI (hv9 k) (by (try simp only [BS] at g1); omega)) rfl rfl)) trivial)) (by kernel_rfl) rfl fun gg11 => ?_
    refine wk_if 1 2 (v := ((decide ((k : Int) < (l.length : Int))) && ((l.getD k 0) == n))) rfl rfl rfl rfl (fun c12b => ?_) (fun c12b => ?_)
    · have c12 := c12b
      try simp only [BS] at c12
      refine wr 1 [] 4 4 [32] [(4, (.slice a_l l.length k_l))] trivial (by kernel_rfl) rfl fun gg13 => ?_
      refine wk_ret ⟨.inr rfl, _, rfl, a_l, k_l, l, _, (Fz.le_refl _), (HS.forget hs), rfl, hl, (by first | exact ins_same hk (by omega) (by omega) | exact ins_new hk (by omega))⟩
    · have c12 := c12b
      try simp only [BS] at c12
      refine wf_region rfl ?_
      refine fm (.slice a_l l.length k_l) rfl rfl rfl ?_
      refine fm (.int .i64 (k : Int)) rfl rfl rfl ?_
      refine wf_rs (id := .q fun b => F b ≠ none) (rs_cutt (α := Int) (j := k) hl hs.log0 rfl rfl rfl (optN (by omega)) (by omega)) rfl rfl (by rintro _ _ _ ⟨_, _, _, hH, _⟩; exact did_q rfl (SR.q hl)) (⟨.inl rfl, ⟨.inl rfl, trivial⟩⟩) ?_
      rintro _ _ _ ⟨a14, k14, rfl, hH14, hq14⟩ lg14 hlg14
      simp only at hH14; replace hH14 := hH14.symm; subst hH14
      have hs14 := HS.lg hs.log0 hs hlg14
      generalize ({ { H with log := [] } with log := lg14 } : Heap) = H14g at hs14 ⊢
      have hs15 := HS.snoc hs14
      have hs15 : HS _ _ _ [[]] _ := hs15
      refine wf_rs (id := .x []) (rs_app (α := Int) (q := 0) (OS.nil : OS F (.slice none 0 0) ([] : List Int) []) hs15.log0 rfl rfl rfl (SR.sv hq14 hs15.log0) rfl rfl rfl rfl rfl rfl rfl (by simp only [List.length_take, List.length_nil]; omega)) rfl rfl (by rintro _ _ p16 ⟨a16, k16, rfl, ho16, _, hwr⟩; exact did_x rfl rfl (Wr.did hwr)) (⟨.inl rfl, ⟨.inl rfl, ⟨.inl rfl, trivial⟩⟩⟩) ?_
      rintro _ H17 p16 ⟨a16, k16, rfl, ho16, hs17, _⟩ lg17 hlg17
      replace hs17 := HS.lg hs17 hs15 hlg17
      generalize ({ H17 with log := lg17 } : Heap) = H17g at hs17 ⊢
      have hs17 : HS _ _ _ [p16] _ := hs17
      have ho16 : OS F (.slice a16 (l.take k).length k16) (l.take k) p16 := ho16
      refine fm (.int .i64 n) rfl rfl rfl ?_
      refine wf_rs (id := .a) (rs_lit (α := Int) (ps := [(0, (.int .i64 n))]) (cells := [(.int .i64 n)]) ([n] : List Int) hs17.log0 rfl rfl rfl (by kernel_rfl) ⟨[(.int .i64 n)], [], rfl, ⟨rfl, by omega⟩, rfl⟩ rfl) rfl rfl (fun _ _ _ _ => did_a rfl rfl rfl) (⟨.inl rfl, ⟨.inr trivial, ⟨.inr trivial, ⟨.inr trivial, ⟨.inr trivial, trivial⟩⟩⟩⟩⟩) ?_
      rintro _ H19 p18 ⟨a18, k18, rfl, ho18, hs19, _⟩ lg19 hlg19
      replace hs19 := HS.lg hs19 hs17 hlg19
      generalize ({ H19 with log := lg19 } : Heap) = H19g at hs19 ⊢
      have hs19 : HS _ _ _ [_, p18] _ := hs19
      refine wf_rs (id := .x (p16.map Prod.fst)) (rs_app (α := Int) (q := 0) ho16 hs19.log0 rfl rfl rfl (OS.sv ho18 hs19.log0 (i := 1) rfl) rfl rfl rfl rfl rfl rfl rfl (by simp only [List.length_take, List.length_cons, List.length_nil]; omega)) rfl rfl (by rintro _ _ p20 ⟨a20, k20, rfl, ho20, _, hwr⟩; exact did_x rfl rfl (Wr.did hwr)) (⟨.inl rfl, ⟨.inl rfl, ⟨.inl rfl, ⟨.inl rfl, ⟨.inl rfl, ⟨.inl rfl, trivial⟩⟩⟩⟩⟩⟩) ?_
      rintro _ H21 p20 ⟨a20, k20, rfl, ho20, hs21, _⟩ lg21 hlg21
      replace hs21 := HS.lg hs21 hs19 hlg21
      generalize ({ H21 with log := lg21 } : Heap) = H21g at hs21 ⊢
      have hs21 : HS _ _ _ [p20, _] _ := hs21
      refine fm (.slice a_l l.length k_l) rfl rfl rfl ?_
      refine fm (.int .i64 (k : Int)) rfl rfl rfl ?_
      refine wf_rs (id := .q fun b => F b ≠ none) (rs_cutd (α := Int) (i := k) hl hs21.log0 rfl rfl rfl (optN (by omega)) (by omega)) rfl rfl (by rintro _ _ _ ⟨_, _, _, hH, _⟩; exact did_q rfl (SR.q hl)) (⟨.inl rfl, ⟨.inl rfl, ⟨.inr (HS.apq hs19 (i := 0) rfl), ⟨.inr trivial, ⟨.inr trivial, ⟨.inr (fun b hb => absurd hb List.not_mem_nil), ⟨.inr trivial, ⟨.inr trivial, ⟨.inr trivial, trivial⟩⟩⟩⟩⟩⟩⟩⟩⟩) ?_
      rintro _ _ _ ⟨a22, k22, rfl, hH22, hq22⟩ lg22 hlg22
      simp only at hH22; replace hH22 := hH22.symm; subst hH22
      have hs22 := HS.lg hs21.log0 hs21 hlg22
      generalize ({ { H21g with log := [] } with log := lg22 } : Heap) = H22g at hs22 ⊢
      refine wf_rs (id := .x (p20.map Prod.fst)) (rs_app (α := Int) (q := 0) ho20 hs22.log0 rfl rfl rfl (SR.sv hq22 hs22.log0) rfl rfl rfl rfl rfl rfl rfl (by simp only [List.length_append, List.length_take, List.length_drop, List.length_cons, List.length_nil]; omega)) rfl rfl (by rintro _ _ p23 ⟨a23, k23, rfl, ho23, _, hwr⟩; exact did_x rfl rfl (Wr.did hwr)) (⟨.inl rfl, ⟨.inl rfl, ⟨.inl rfl, ⟨.inl rfl, ⟨.inl rfl, ⟨.inl rfl, ⟨.inl rfl, ⟨.inl rfl, ⟨.inl rfl, ⟨.inl rfl, trivial⟩⟩⟩⟩⟩⟩⟩⟩⟩⟩) ?_
      rintro _ H24 p23 ⟨a23, k23, rfl, ho23, hs24, _⟩ lg24 hlg24
      replace hs24 := HS.lg hs24 hs22 hlg24
      generalize ({ H24 with log := lg24 } : Heap) = H24g at hs24 ⊢
      have hs24 : HS _ _ _ [p23, _] _ := hs24
      refine fa (.slice a23 (((l.take k) ++ ([n] : List Int)) ++ (l.drop k)).length k23) rfl rfl rfl ?_
      refine wf_nil ?_
      refine wk_foc 1 rfl ?_
      obtain ⟨F25, hF25, hs25, hr25, hp25⟩ := OS.frz ho23 hs24 (i := 0) rfl
      have hs25 : HS _ _ _ [[], _] _ := hs25
      replace hT := hT.mono hF25
      replace hl := hl.mono hF25
      replace ho16 := ho16.mono hF25
      replace ho18 := ho18.mono hF25
      replace ho20 := ho20.mono hF25
      replace ho23 := ho23.mono hF25
      replace hq14 := hq14.mono hF25
      replace hq22 := hq22.mono hF25
      refine wk_ret ⟨.inr rfl, _, rfl, a23, k23, ((l.take k) ++ ([n] : List Int)) ++ (l.drop k), _, (hF25), (HS.forget hs25), rfl, hr25, (by first | exact ins_same hk (by omega) (by omega) | exact ins_new hk (by omega))⟩

theorem sameInts_c (ex : FuncId) {a_a : Option Addr} {k_a : Nat} (a : List Int) {a_b : Option Addr} {k_b : Nat} (b : List Int) {F : Fz} {H : Heap} {R : List Fp} (hs : HS (.of H []) F H [] R) (ha : SR F (.slice a_a a.length k_a) a) (hb : SR F (.slice a_b b.length k_b) b) (hT : TB 37 tabC F) (hlen : a.length ≤ 1073741824) : C Tryd.prog 1 (KT 60 ex 37 tabC) 22 [(.slice a_a a.length k_a), (.slice a_b b.length k_b)] H fun v H' => ∃ (r : Bool), H' = H ∧ v = .bool r ∧ r = decide (a = b) := by
  refine c_enter Tryd.func22 rfl rfl ?_
  refine wk_foc 1 rfl ?_
  refine wr 3 [] 4 4 [] [(4, (.bool false))] trivial (by kernel_rfl) rfl fun gg1 => ?_
  refine wr 1 [] 6 10 [] [(10, (.bool ((a.length : Int) != (b.length : Int))))] trivial (by kernel_rfl) rfl fun gg2 => ?_
  refine wk_if 1 3 (v := ((a.length : Int) != (b.length : Int))) rfl rfl rfl rfl (fun c3b => ?_) (fun c3b => ?_)
  · have c3 := c3b
    try simp only [BS] at c3
    refine wr 1 [] 4 4 [] [(4, (.bool false))] trivial (by kernel_rfl) rfl fun gg4 => ?_
    refine wk_ret ⟨.inr rfl, _, rfl, false, rfl, rfl, (by first | exact same_yes (by omega) h2 (by omega) | exact same_no (k := k) (by omega) | exact same_len (by omega))⟩
  · have c3 := c3b
    try simp only [BS] at c3
    refine wr 2 [] 1 0 [5] [(5, (.int .i64 0))] trivial (by kernel_rfl) rfl fun gg5 => ?_
    refine wk_loop_inv (fun (mm : Nat) f H' => ∃ (k : Nat), H' = H ∧ agrees f [(0, (.slice a_a a.length k_a)), (1, (.slice a_b b.length k_b)), (5, (.int .i64 (k : Int)))] ∧ mm = a.length - k ∧ (k ≤ a.length) ∧ (∀ j, j < k → a.getD j 0 = b.getD j 0)) _ ⟨0, rfl, (agC rfl (agC rfl (agC rfl agN))), rfl, (by first | assumption | omega | (simp at *; omega)), (by intro j hj; omega)⟩ ?_
    rintro mm6 f6 H ⟨k, rfl, hf6, rfl, h1, h2⟩ ih6
    refine wk_canon _ hf6 (fun gg6 => ?_)
    clear hf6
    refine wk_foc 2 rfl ?_
    refine wr 1 [] 11 14 [] [(14, (.bool (decide ((k : Int) < (a.length : Int)))))] trivial (by kernel_rfl) rfl fun gg7 => ?_
    refine wk_if 4 5 (v := (decide ((k : Int) < (a.length : Int)))) rfl rfl rfl rfl (fun c8b => ?_) (fun c8b => ?_)
    · have c8 := c8b
      try simp only [BS] at c8
      obtain ⟨cf9, hv9⟩ := Sv.view (SR.sv ha hs)
      have g10 := fI (hv9 k)
      obtain ⟨cf11, hv11⟩ := Sv.view (SR.sv hb hs)
      have g12 := fI (hv11 k)
      refine wrD 1 [(3, .o (.int .i64 (a.getD k 0))), (7, .o (.int .i64 (b.getD k 0)))] 17 25 [] [(25, (.bool ((a.getD k 0) != (b.getD k 0))))] (vA (Sv.ix (j := (k : Int)) (SR.sv ha hs) (by omega) (by omega)) (vA (ql 3 0 (hc0 (vI (hv9 k) (by omega))) rfl rfl) (vA (Sv.ix (j := (k : Int)) (SR.sv hb hs) (by omega) (by omega)) (vA (ql 3 0 (hc0 (vI (hv11 k) (by omega))) rfl rfl) trivial)))) rfl (by kernel_rfl) rfl fun gg13 => ?_
      refine wk_if 1 2 (v := ((a.getD k 0) != (b.getD k 0))) rfl rfl rfl rfl (fun c14b => ?_) (fun c14b => ?_)
      · have c14 := c14b
        try simp only [BS] at c14
        refine wr 1 [] 4 4 [] [(4, (.bool false))] trivial (by kernel_rfl) rfl fun gg15 => ?_
        refine wk_ret ⟨.inr rfl, _, rfl, false, rfl, rfl, (by first | exact same_yes (by omega) h2 (by omega) | exact same_no (k := k) (by omega) | exact same_len (by omega))⟩
      · have c14 := c14b
        try simp only [BS] at c14
        refine wr 1 [] 15 16 [5] [(5, (.int .i64 ((k : Int) + 1)))] (vA (vi (n := (k : Int) + 1) (by omega)) trivial) (by kernel_rfl) rfl fun gg16 => ?_
        refine ih6 _ _ _ ?_ ⟨k + 1, rfl, (agC rfl (agC rfl (agC rfl agN))), rfl, (by first | assumption | omega | (simp at *; omega)), (by exact lt_succ h2 (by omega))⟩
        omega
    · have c8 := c8b
      try simp only [BS] at c8
      refine wr 1 [] 4 4 [] [(4, (.bool true))] trivial (by kernel_rfl) rfl fun gg17 => ?_
      refine wk_ret ⟨.inr rfl, _, rfl, true, rfl, rfl, (by first | exact same_yes (by omega) h2 (by omega) | exact same_no (k := k) (by omega) | exact same_len (by omega))⟩

end Go.Proofs.YtlabedbmgmfbaaaDoor.m6
