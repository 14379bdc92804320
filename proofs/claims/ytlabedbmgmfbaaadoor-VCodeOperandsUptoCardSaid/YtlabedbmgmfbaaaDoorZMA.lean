/-
  What instructions read and write, what follows a block, unions and differences of sets: the program and the reference, each by a symbolic run. No condition but bounds on lengths.
-/
import Derived.Test.YtlabedbmgmfbaaaDoorZM6
import Derived.Test.YtlabedbmgmfbaaaDoorZRD
noncomputable section
namespace Go.Proofs.YtlabedbmgmfbaaaDoor.ma
open Go.R
set_option maxRecDepth 10000
set_option linter.unusedVariables false
theorem ql {H : Heap} {b o : Nat} {cs : List Value} {w : Value} (t : TypeId) (i : Nat) (hc : HC H.get b o cs) (ha : aggOf Tryd.prog t = some false) (hv : cs[i]? = some w) : LDv Tryd.prog H t (.pointer (some ⟨b, o + i, none⟩)) w := ld1 hc ha hv
theorem qn {H : Heap} {b o : Nat} {cs l : List Value} (t : TypeId) (i n : Nat) (hc : HC H.get b o cs) (ha : aggOf Tryd.prog t = some true) (hs : szOf Tryd.prog t = some n) (hn : Nat.ble (i + n) cs.length = true) (hl : takeL (dropL cs i) n = l) : LDv Tryd.prog H t (.pointer (some ⟨b, o + i, none⟩)) (.agg ⟨l⟩) := ldN hc ha hs hn hl
open m1 m2 m3 m4 m5 m6
abbrev Asc (l : List Int) : Prop := l.Pairwise (· < ·)
def uniV (a l : List Int) : List Int := l.foldl insV a
def minV (a b : List Int) : List Int := a.filter fun x => !conV b x
theorem asc_at {l : List Int} (h : Asc l) {i j : Nat} (hij : i < j) (hj : j < l.length) : l.getD i 0 < l.getD j 0 := by
  have := (List.pairwise_iff_getElem.1 h) i j (by omega) hj hij
  rw [List.getD_eq_getElem?_getD, List.getD_eq_getElem?_getD, List.getElem?_eq_getElem hj, List.getElem?_eq_getElem (show i < l.length by omega)]; exact this
theorem pre_lt {l : List Int} {n : Int} : ∀ x ∈ l.take (preV l n), x < n := by
  intro x hx
  have e : l.take (preV l n) = l.takeWhile (fun x => decide (x < n)) := by
    unfold preV
    exact (List.prefix_iff_eq_take.1 (List.takeWhile_prefix _)).symm
  rw [e] at hx
  have := List.all_eq_true.1 (List.all_takeWhile (p := fun x => decide (x < n)) (l := l)) x hx
  simpa using this
theorem pre_at {l : List Int} {n : Int} (h : preV l n < l.length) : ¬ l.getD (preV l n) 0 < n := by
  induction l with
  | nil => simp at h
  | cons x l ih =>
    unfold preV at h ⊢
    by_cases hx : x < n
    · rw [List.takeWhile_cons_of_pos (by simpa using hx)] at h ⊢
      simp only [List.length_cons, List.getD_cons_succ] at h ⊢
      exact ih (by unfold preV; omega)
    · rw [List.takeWhile_cons_of_neg (by simpa using hx)]
      simpa using hx
theorem pre_ge {l : List Int} {n : Int} (ha : Asc l) : ∀ x ∈ l.drop (preV l n), n ≤ x := by
  intro x hx
  obtain ⟨i, hi, rfl⟩ := List.mem_iff_getElem.1 hx
  rw [List.getElem_drop]
  rw [List.length_drop] at hi
  have h0 := pre_at (l := l) (n := n) (by omega)
  rw [List.getD_eq_getElem?_getD, List.getElem?_eq_getElem (show preV l n < l.length by omega)] at h0
  rcases Nat.eq_zero_or_pos i with rfl | hp
  · simp only [Nat.add_zero]; simpa using h0
  · have := (List.pairwise_iff_getElem.1 ha) (preV l n) (preV l n + i) (by omega) (by omega) (by omega)
    simp only [Option.getD_some] at h0
    omega
theorem ins_asc {l : List Int} {n : Int} (h : Asc l) : Asc (insV l n) := by
  unfold insV
  split
  · exact h
  · rename_i hc
    have hge := pre_ge (n := n) h
    have hlt := pre_lt (l := l) (n := n)
    refine List.pairwise_append.2 ⟨List.pairwise_append.2 ⟨h.sublist (List.take_sublist _ _), List.pairwise_singleton _ _, fun a ha b hb => ?_⟩, h.sublist (List.drop_sublist _ _), fun a ha b hb => ?_⟩
    · rw [List.mem_singleton] at hb; subst hb; exact hlt a ha
    · have hn : n < b := by
        have h1 := hge b hb
        rcases Int.lt_or_eq_of_le h1 with h2 | h2
        · exact h2
        · exfalso
          obtain ⟨i, hi, rfl⟩ := List.mem_iff_getElem.1 hb
          rw [List.length_drop] at hi
          rw [List.getElem_drop] at h2
          apply hc
          refine ⟨by omega, ?_⟩
          have h3 := pre_at (l := l) (n := n) (by omega)
          rw [List.getD_eq_getElem?_getD, List.getElem?_eq_getElem (show preV l n < l.length by omega)] at h3 ⊢
          simp only [Option.getD_some] at h3 ⊢
          rcases Nat.eq_zero_or_pos i with rfl | hp
          · simpa using h2.symm
          · have := (List.pairwise_iff_getElem.1 h) (preV l n) (preV l n + i) (by omega) (by omega) (by omega)
            omega
      rcases List.mem_append.1 ha with ha | ha
      · have := hlt a ha; omega
      · rw [List.mem_singleton] at ha; subst ha; exact hn
theorem uni_asc {l : List Int} : ∀ {a : List Int}, Asc a → Asc (uniV a l) := by
  induction l with
  | nil => exact fun h => h
  | cons x l ih => exact fun h => ih (ins_asc h)
theorem uni_len {l : List Int} : ∀ {a : List Int}, (uniV a l).length ≤ a.length + l.length := by
  induction l with
  | nil => intro a; exact Nat.le_refl _
  | cons y l ih =>
    intro a
    have h1 := ih (a := insV a y)
    have h2 := ins_len (l := a) (n := y)
    have : uniV a (y :: l) = uniV (insV a y) l := rfl
    rw [this, List.length_cons]; omega
theorem uni_snoc {a l : List Int} {x : Int} : uniV a (l ++ [x]) = insV (uniV a l) x := by unfold uniV; rw [List.foldl_append]; rfl
theorem uni_app {a l m : List Int} : uniV a (l ++ m) = uniV (uniV a l) m := by unfold uniV; rw [List.foldl_append]
theorem take_snoc {α : Type} {d : α} {l : List α} {i : Nat} (h : i < l.length) : l.take (i + 1) = l.take i ++ [l.getD i d] := by
  rw [List.take_add_one, List.getElem?_eq_getElem h, List.getD_eq_getElem?_getD, List.getElem?_eq_getElem h]; rfl
theorem uni_step {a l o : List Int} {i : Nat} (h : i < l.length) (ho : o = uniV a (l.take i)) : insV o (l.getD i 0) = uniV a (l.take (i + 1)) := by rw [take_snoc h (d := 0), uni_snoc, ho]
theorem uni_all {a l o : List Int} {i : Nat} (h : l.length ≤ i) (ho : o = uniV a (l.take i)) : o = uniV a l := by rw [ho, List.take_of_length_le h]
theorem pre_eqR {l : List Int} {n : Int} {k : Nat} (ha : Asc l) (hk : k ≤ l.length) (h1 : ∀ j, k ≤ j → j < l.length → n ≤ l.getD j 0) (h2 : 0 < k → l.getD (k - 1) 0 < n) : k = preV l n := by
  refine pre_eq hk (fun j hj => ?_) (fun hk' => by have := h1 k (Nat.le_refl _) hk'; omega)
  have h3 := h2 (by omega)
  rcases Nat.lt_or_ge j (k - 1) with h4 | h4
  · have := asc_at ha h4 (by omega); omega
  · have : j = k - 1 := by omega
    subst this; exact h3
theorem ge_step {l : List Int} {n : Int} {k : Nat} (h : ∀ j, k ≤ j → j < l.length → n ≤ l.getD j 0) (h2 : n ≤ l.getD (k - 1) 0) : ∀ j, k - 1 ≤ j → j < l.length → n ≤ l.getD j 0 := fun j h5 h6 => by
  rcases Nat.lt_or_ge j k with h7 | h7
  · have h8 : j = k - 1 := by omega
    subst h8; exact h2
  · exact h j h7 h6
theorem cp_ins {l : List Int} {n : Int} {k : Nat} (hk : k = preV l n) (hle : k ≤ l.length) (h : ¬ (k < l.length ∧ l.getD k 0 = n)) : (cpL (l ++ [0]) (k + 1) ((l ++ [0]).drop k)).set k n = insV l n := by
  have e : cpL (l ++ [0]) (k + 1) ((l ++ [0]).drop k) = (l ++ [0]).take (k + 1) ++ l.drop k := by
    unfold cpL
    have h1 : ((l ++ [0]).drop k).length = l.length + 1 - k := by simp
    have h2 : (l ++ [(0 : Int)]).length = l.length + 1 := by simp
    rw [h1, h2, show min (l.length + 1 - k) (l.length + 1 - (k + 1)) = l.length - k by omega, show k + 1 + (l.length - k) = l.length + 1 by omega]
    rw [show List.drop (l.length + 1) (l ++ [(0 : Int)]) = [] from List.drop_of_length_le (by rw [h2]; exact Nat.le_refl _), List.append_nil]
    congr 1
    rw [List.drop_append, List.take_append, List.length_drop, show l.length + 1 - (k + 1) = l.length - k by omega, Nat.sub_self, List.take_zero, List.append_nil, List.take_of_length_le (by rw [List.length_drop]; omega)]
  rw [e, ← ins_new hk h, List.append_assoc, List.take_add_one]
  rw [List.set_append]
  have h3 : (List.take k (l ++ [0])) = l.take k := by rw [List.take_append, Nat.sub_eq_zero_of_le hle, List.take_zero, List.append_nil]
  have h4 : (l ++ [(0 : Int)])[k]?.toList = [(l ++ [(0 : Int)]).getD k 0] := by
    rw [List.getD_eq_getElem?_getD, List.getElem?_eq_getElem (show k < (l ++ [(0 : Int)]).length by simp; omega)]; rfl
  rw [h3, h4]
  have h5 : (List.take k l ++ [(l ++ [(0 : Int)]).getD k 0]).length = k + 1 := by simp; omega
  rw [if_pos (by rw [h5]; omega), List.set_append, if_neg (by rw [List.length_take]; omega), List.length_take, show k - min k l.length = 0 by omega]
  simp
def readsL (v : VInT) : List Int := (if (infV v.i.op).ra then [v.i.a] else []) ++ ((if (infV v.i.op).rb then [v.i.b] else []) ++ ((if v.i.op = 11 ∨ v.i.op = 12 then [v.i.c] else []) ++ (if v.i.op = 6 then v.args else [])))
def readsV (v : VInT) : List Int := if alV v.i.op then uniV [] (readsL v) else []
def writesV (v : VInT) : List Int := if alV v.i.op = true ∧ ((infV v.i.op).wa = true ∨ v.i.op = 6 ∨ v.i.op = 38) then [v.i.a] else []
def succV (b : BlkT) : List Int := if b.fin = 1 then [b.tgt] else if b.fin = 2 then insV [b.tgt] b.els else []
def endV (b : BlkT) : List Int := if b.fin = 2 ∨ b.fin = 3 then [b.reg] else []
theorem reads_no {v : VInT} (h : alV v.i.op = false) : [] = readsV v := by unfold readsV; rw [h]; rfl
theorem reads_yes {v : VInT} {l : List Int} (h : alV v.i.op = true) (hl : l = readsL v) : uniV [] l = readsV v := by unfold readsV; rw [h, hl]; rfl
theorem rrT {l : List Int} {a : Int} {p : Prop} [Decidable p] (h : p) : insV l a = uniV l (if p then [a] else []) := by rw [if_pos h]; rfl
theorem rrF {l : List Int} {a : Int} {p : Prop} [Decidable p] (h : ¬ p) : l = uniV l (if p then [a] else []) := by rw [if_neg h]; rfl
theorem vra {op : Int} : (vinfV op).ra = (infV op).ra := by unfold vinfV; split <;> first | rfl | (rename_i h; subst h; rfl)
theorem vrb {op : Int} : (vinfV op).rb = (infV op).rb := by unfold vinfV; split <;> first | rfl | (rename_i h; subst h; rfl)
theorem vf4 {op : Int} (h : alV op = true) : (vinfV op).form = 4 ↔ op = 11 ∨ op = 12 := by
  unfold alV at h
  have h := of_decide_eq_true h
  by_cases h38 : op = 38
  · subst h38; decide
  · have e : vinfV op = infV op := by unfold vinfV; rw [if_neg h38]
    rw [e]
    obtain ⟨k, hk⟩ := ex37 (op := op) ⟨by omega, by omega⟩
    rw [hk]; clear hk; revert k; decide +kernel
theorem rr_end {v : VInT} {l1 l2 l3 l4 : List Int} {k : Nat} (hal : alV v.i.op = true) (q1 : l1 = uniV [] (if (infV v.i.op).ra = true then [v.i.a] else [])) (q2 : l2 = uniV l1 (if (infV v.i.op).rb = true then [v.i.b] else [])) (q3 : l3 = uniV l2 (if v.i.op = 11 ∨ v.i.op = 12 then [v.i.c] else []))
    (q4 : l4 = uniV l3 (v.args.take k)) (q6 : k = 0 ∨ v.i.op = 6) (h : v.i.op = 6 → v.args.length ≤ k) : l4 = readsV v := by
  have e : v.args.take k = if v.i.op = 6 then v.args else [] := by
    by_cases h6 : v.i.op = 6
    · rw [if_pos h6, List.take_of_length_le (h h6)]
    · rw [if_neg h6]
      have : k = 0 := by omega
      subst this; rfl
  unfold readsV readsL
  rw [if_pos hal, uni_app, uni_app, uni_app, ← q1, ← q2, ← q3, ← e, ← q4]
theorem one_len {a : Int} {p : Prop} [Decidable p] : (if p then [a] else []).length ≤ 1 := by split <;> simp
theorem rr_len {v : VInT} {l1 l2 l3 l4 : List Int} {k : Nat} (q1 : l1 = uniV [] (if (infV v.i.op).ra = true then [v.i.a] else [])) (q2 : l2 = uniV l1 (if (infV v.i.op).rb = true then [v.i.b] else [])) (q3 : l3 = uniV l2 (if v.i.op = 11 ∨ v.i.op = 12 then [v.i.c] else []))
    (q4 : l4 = uniV l3 (v.args.take k)) : l4.length ≤ 3 + v.args.length := by
  have h1 : l1.length ≤ 1 := by rw [q1]; exact Nat.le_trans uni_len (by simpa using one_len)
  have h2 : l2.length ≤ 2 := by rw [q2]; exact Nat.le_trans uni_len (Nat.add_le_add h1 one_len)
  have h3 : l3.length ≤ 3 := by rw [q3]; exact Nat.le_trans uni_len (Nat.add_le_add h2 one_len)
  rw [q4]; exact Nat.le_trans uni_len (Nat.add_le_add h3 (by rw [List.length_take]; omega))
theorem rr_len1 {v : VInT} {l1 : List Int} (q1 : l1 = uniV [] (if (infV v.i.op).ra = true then [v.i.a] else [])) : l1.length ≤ 1 := by rw [q1]; exact Nat.le_trans uni_len (by simpa using one_len)
theorem rr_len2 {v : VInT} {l1 l2 : List Int} (h1 : l1.length ≤ 1) (q2 : l2 = uniV l1 (if (infV v.i.op).rb = true then [v.i.b] else [])) : l2.length ≤ 2 := by rw [q2]; exact Nat.le_trans uni_len (Nat.add_le_add h1 one_len)
theorem writes_no {v : VInT} (h : alV v.i.op = false) : [] = writesV v := by unfold writesV; rw [if_neg (by simp [h])]
theorem writes_yes {v : VInT} (h : alV v.i.op = true) (h2 : (infV v.i.op).wa = true ∨ v.i.op = 6 ∨ v.i.op = 38) : [v.i.a] = writesV v := by unfold writesV; rw [if_pos ⟨h, h2⟩]
theorem writes_not {v : VInT} (h : ¬ ((infV v.i.op).wa = true ∨ v.i.op = 6 ∨ v.i.op = 38)) : [] = writesV v := by unfold writesV; rw [if_neg fun hh => h hh.2]
theorem vwa {op : Int} : ((vinfV op).wa = true) ↔ ((infV op).wa = true ∨ op = 38) := by
  unfold vinfV
  split
  · rename_i h; subst h; simp
  · rename_i h; constructor
    · exact .inl
    · rintro (h1 | h1)
      · exact h1
      · exact absurd h1 h
theorem rwr_yes {v : VInT} (h : alV v.i.op = true ∧ ((vinfV v.i.op).wa = true ∨ v.i.op = 6)) : [v.i.a] = writesV v := writes_yes h.1 (by have := vwa (op := v.i.op); rcases h.2 with h2 | h2; (rcases this.1 h2 with h3 | h3); exact .inl h3; exact .inr (.inr h3); exact .inr (.inl h2))
theorem rwr_no {v : VInT} (h : alV v.i.op = true → (vinfV v.i.op).wa = false ∧ v.i.op ≠ 6) : [] = writesV v := by
  unfold writesV
  rw [if_neg]
  rintro ⟨h1, h2⟩
  obtain ⟨h3, h4⟩ := h h1
  have := vwa (op := v.i.op)
  rcases h2 with h2 | h2 | h2
  · rw [this.2 (.inl h2)] at h3; cases h3
  · exact h4 h2
  · rw [this.2 (.inr h2)] at h3; cases h3
theorem succ1 {b : BlkT} (h : b.fin = 1) : [b.tgt] = succV b := by unfold succV; rw [if_pos h]
theorem succ2 {b : BlkT} (h : b.fin = 2) : succV b = insV [b.tgt] b.els := by unfold succV; rw [if_neg (by omega), if_pos h]
theorem succ0 {b : BlkT} (h : b.fin ≠ 1 ∧ b.fin ≠ 2) : [] = succV b := by unfold succV; rw [if_neg h.1, if_neg h.2]
set_option maxHeartbeats 1000000 in
theorem unique_c (ex : FuncId) {a_l : Option Addr} {k_l : Nat} (l : List Int) {F : Fz} {H : Heap} {R : List Fp} (hs : HS (.of H []) F H [] R) (hl : SR F (.slice a_l l.length k_l) l) (hT : TB 37 tabC F) (hlen : l.length ≤ 1048600) : C Tryd.prog 1 (KT 60 ex 37 tabC) 76 [(.slice a_l l.length k_l)] H fun v H' => ∃ (ar : Option Addr) (kr : Nat) (r : List Int) (p : Fp) (F' : Fz), Fz.le F F' ∧ HS (.of H []) F' H' [p] R ∧ v = .slice ar r.length kr ∧ OS F' (.slice ar r.length kr) r p ∧ r = uniV [] l := by
  refine c_enter Tryd.func76 rfl rfl ?_
  refine wk_foc 1 rfl ?_
  refine wr 2 [] 2 2 [] [(2, (.slice none 0 0))] trivial (by kernel_rfl) rfl fun gg1 => ?_
  refine wr 3 [] 1 0 [3] [(3, (.slice none 0 0))] trivial (by kernel_rfl) rfl fun gg2 => ?_
  refine wr 2 [] 7 9 [] [(7, (.slice a_l l.length k_l)), (8, (.int .i64 (l.length : Int))), (9, (.int .i64 0))] trivial (by kernel_rfl) rfl fun gg3 => ?_
  have hs5 := HS.snoc hs
  have hs5 : HS _ _ _ [[]] _ := hs5
  refine wk_loop_inv (fun (mm : Nat) f H' => ∃ (ow : List Int) (i : Nat) (la4_3 : Option Addr) (lk4_3 : Nat) (lp4_3 : Fp) (F' : Fz), Fz.le F F' ∧ HS (Base.of H []) F' H' [lp4_3] R ∧ OS F' (.slice la4_3 ow.length lk4_3) ow lp4_3 ∧ agrees f [(2, (.slice none 0 0)), (3, (.slice la4_3 ow.length lk4_3)), (7, (.slice a_l l.length k_l)), (8, (.int .i64 (l.length : Int))), (9, (.int .i64 (i : Int)))] ∧ mm = l.length - i ∧ (i ≤ l.length) ∧ (ow = uniV [] (l.take i))) _ ⟨([] : List Int), 0, none, 0, [], _, (Fz.le_refl _), hs5, (OS.nil : OS F (.slice none 0 0) ([] : List Int) []), (agC rfl (agC rfl (agC rfl (agC rfl (agC rfl agN))))), rfl, (by first | assumption | omega | (simp at *; omega)), (by rfl)⟩ ?_
  rintro mm4 f4 H4 ⟨ow, i, la4_3, lk4_3, lp4_3, F4, hF4, hs4, lh4_3, hf4, rfl, h1, h2⟩ ih4
  refine wk_canon _ hf4 (fun gg4 => ?_)
  clear hf4
  replace hT := hT.mono hF4
  replace hl := hl.mono hF4
  have hasc : Asc ow := h2 ▸ uni_asc List.Pairwise.nil
  have hle : ow.length ≤ i := by rw [h2]; exact Nat.le_trans uni_len (by simp; omega)
  refine wk_foc 1 rfl ?_
  refine wr 2 [] 10 10 [] [(10, (.bool (decide ((i : Int) < (l.length : Int)))))] trivial (by kernel_rfl) rfl fun gg6 => ?_
  refine wk_if 4 5 (v := (decide ((i : Int) < (l.length : Int)))) rfl rfl rfl rfl (fun c7b => ?_) (fun c7b => ?_)
  · have c7 := c7b
    try simp only [BS] at c7
    obtain ⟨cf8, hv8⟩ := Sv.view (SR.sv hl hs4)
    have g9 := fI (hv8 i)
    refine wr 2 [(1, .o (.int .i64 (l.getD i 0)))] 11 12 [5] [(5, (.int .i64 (l.getD i 0)))] (vA (Sv.ix (j := (i : Int)) (SR.sv hl hs4) (by omega) (by omega)) (vA (ql 3 0 (vI (hv8 i) (by omega)) rfl rfl) trivial)) (by kernel_rfl) rfl fun gg10 => ?_
    refine wr 3 [] 13 14 [6] [(6, (.int .i64 (ow.length : Int)))] trivial (by kernel_rfl) rfl fun gg11 => ?_
    refine wk_loop_inv (fun (mm : Nat) f H' => ∃ (k : Nat), H' = H4 ∧ agrees f [(2, (.slice none 0 0)), (3, (.slice la4_3 ow.length lk4_3)), (5, (.int .i64 (l.getD i 0))), (6, (.int .i64 (k : Int))), (7, (.slice a_l l.length k_l)), (8, (.int .i64 (l.length : Int))), (9, (.int .i64 (i : Int))), (10, (.bool (decide ((i : Int) < (l.length : Int)))))] ∧ mm = k + 1 ∧ (k ≤ ow.length) ∧ (∀ j, k ≤ j → j < ow.length → l.getD i 0 ≤ ow.getD j 0)) _ ⟨ow.length, rfl, (agC rfl (agC rfl (agC rfl (agC rfl (agC rfl (agC rfl (agC rfl (agC rfl agN)))))))), rfl, (by first | assumption | omega | (simp at *; omega)), (by intro j h5 h6; omega)⟩ ?_
    rintro mm12 f12 H4 ⟨k, rfl, hf12, rfl, h3, h4⟩ ih12
    refine wk_canon _ hf12 (fun gg12 => ?_)
    clear hf12
    refine wk_foc 2 rfl ?_
    obtain ⟨cf13, hv13⟩ := Sv.view (OS.sv lh4_3 hs4 (i := 0) rfl)
    have g14 := fI (hv13 (k - 1))
    refine wr 1 [(5, .e ((k - 1 : Nat) : Int)), (7, .o (.int .i64 (ow.getD (k - 1) 0)))] 15 25 [] [(25, (.bool ((decide ((0 : Int) < (k : Int))) && (decide ((l.getD i 0) ≤ (ow.getD (k - 1) 0))))))] (vA (fun (g1 : (decide ((0 : Int) < (k : Int))) = true) => (ve (n := (k : Int) - 1) (m := ((k - 1 : Nat) : Int)) (by (try simp only [BS] at g1); omega) (by (try simp only [BS] at g1); omega))) (vA (fun (g1 : (decide ((0 : Int) < (k : Int))) = true) => (Sv.ix (j := ((k - 1 : Nat) : Int)) (OS.sv lh4_3 hs4 (i := 0) rfl) (by (try simp only [BS] at g1); omega) (by (try simp only [BS] at g1); omega))) (vA (fun (g1 : (decide ((0 : Int) < (k : Int))) = true) => (ql 3 0 (vI (hv13 (k - 1)) (by (try simp only [BS] at g1); omega)) rfl rfl)) trivial))) (by kernel_rfl) rfl fun gg15 => ?_
    refine wk_if 2 6 (v := ((decide ((0 : Int) < (k : Int))) && (decide ((l.getD i 0) ≤ (ow.getD (k - 1) 0))))) rfl rfl rfl rfl (fun c16b => ?_) (fun c16b => ?_)
    · have c16 := c16b
      try simp only [BS] at c16
      refine wr 2 [(1, .e ((k - 1 : Nat) : Int))] 26 27 [6] [(6, (.int .i64 ((k - 1 : Nat) : Int)))] (vA (ve (n := (k : Int) - 1) (m := ((k - 1 : Nat) : Int)) (by omega) (by omega)) trivial) (by kernel_rfl) rfl fun gg17 => ?_
      refine ih12 _ _ _ ?_ ⟨k - 1, rfl, (agC rfl (agC rfl (agC rfl (agC rfl (agC rfl (agC rfl (agC rfl (agC rfl agN)))))))), rfl, (by first | assumption | omega | (simp at *; omega)), (by exact ge_step h4 (by omega))⟩
      omega
    · have c16 := c16b
      try simp only [BS] at c16
      have hk := pre_eqR hasc h3 h4 (by omega)
      obtain ⟨cf18, hv18⟩ := Sv.view (OS.sv lh4_3 hs4 (i := 0) rfl)
      have g19 := fI (hv18 k)
      refine wr 1 [(8, .o (.int .i64 (ow.getD k 0)))] 28 39 [] [(39, (.bool ((decide ((k : Int) < (ow.length : Int))) && ((ow.getD k 0) == (l.getD i 0)))))] (vA (fun (g1 : (decide ((k : Int) < (ow.length : Int))) = true) => (Sv.ix (j := (k : Int)) (OS.sv lh4_3 hs4 (i := 0) rfl) (by (try simp only [BS] at g1); omega) (by (try simp only [BS] at g1); omega))) (vA (fun (g1 : (decide ((k : Int) < (ow.length : Int))) = true) => (ql 3 0 (vI (hv18 k) (by (try simp only [BS] at g1); omega)) rfl rfl)) trivial)) (by kernel_rfl) rfl fun gg20 => ?_
      refine wk_if 3 2 (v := ((decide ((k : Int) < (ow.length : Int))) && ((ow.getD k 0) == (l.getD i 0)))) rfl rfl rfl rfl (fun c21b => ?_) (fun c21b => ?_)
      · have c21 := c21b
        try simp only [BS] at c21
        refine wr 1 [] 9 9 [55] [(9, (.int .i64 ((i : Int) + 1)))] (vA (vi (n := (i : Int) + 1) (by omega)) trivial) (by kernel_rfl) rfl fun gg22 => ?_
        refine ih4 _ _ _ ?_ ⟨ow, i + 1, la4_3, lk4_3, lp4_3, _, (hF4), hs4, lh4_3, (agC rfl (agC rfl (agC rfl (agC rfl (agC rfl agN))))), rfl, (by first | assumption | omega | (simp at *; omega)), (by first | (rw [cp_ins hk h3 (by omega)]; exact uni_step (by omega) h2) | (rw [← uni_step (by omega) h2]; exact ins_same hk (by omega) (by omega)))⟩
        omega
      · have c21 := c21b
        try simp only [BS] at c21
        refine wk_region ?_
        refine wm (.slice la4_3 ow.length lk4_3) rfl rfl rfl ?_
        refine wo_rs (rs_lit (α := Int) (ps := [(0, (.int .i64 0))]) (cells := [(.int .i64 0)]) ([0] : List Int) hs4 rfl rfl rfl (by kernel_rfl) ⟨[(.int .i64 0)], [], rfl, ⟨rfl, by omega⟩, rfl⟩ rfl) rfl rfl ?_
        rintro _ H24 p23 ⟨a23, k23, rfl, ho23, hs24, _⟩
        have hs24 : HS _ _ _ [lp4_3, p23] _ := hs24
        refine wo_rs (rs_app (α := Int) (q := 0) lh4_3 hs24 rfl rfl rfl (OS.sv ho23 hs24 (i := 1) rfl) rfl rfl rfl rfl rfl rfl rfl (by first | omega | (simp only [List.length_cons, List.length_nil]; omega))) rfl rfl ?_
        rintro _ H26 p25 ⟨a25, k25, rfl, ho25, hs26, _⟩
        have hs26 : HS _ _ _ [p25, _] _ := hs26
        refine wa (.slice a25 (ow ++ ([0] : List Int)).length k25) rfl rfl rfl ?_
        refine wo_end 2 rfl ?_
        have la : (ow ++ ([0] : List Int)).length = ow.length + 1 := by simp
        refine wf_region rfl ?_
        refine fm (.slice a25 (ow ++ ([0] : List Int)).length k25) rfl rfl rfl ?_
        refine fm (.int .i64 (k : Int)) rfl rfl rfl ?_
        refine wf_pure (v := (.int .i64 ((k : Int) + 1))) (id := .v) (ap_add rfl rfl (w_i64 (n := (k : Int) + 1) (by omega))) rfl rfl (did_v rfl) (okD_v _) ?_
        refine wf_rs (id := .r) (rs_cutX (α := Int) (i := k + 1) ho25 hs26.log0 (q := 0) rfl rfl rfl rfl (optN (by omega)) (by omega)) rfl rfl (by rintro _ _ _ ⟨_, _, _, hH, _⟩; simp only at hH; subst hH; exact did_r fun b hb => absurd hb List.not_mem_nil) (⟨.inl rfl, ⟨.inl rfl, ⟨.inl rfl, trivial⟩⟩⟩) ?_
        rintro _ _ _ ⟨a27, k27, rfl, hH27, hq27, hat27⟩ lg27 hlg27
        simp only at hH27; replace hH27 := hH27.symm; subst hH27
        have hs27 := HS.lg hs26.log0 hs26 hlg27
        generalize ({ { H26 with log := [] } with log := lg27 } : Heap) = H27g at hs27 ⊢
        refine fm (.slice a25 (ow ++ ([0] : List Int)).length k25) rfl rfl rfl ?_
        refine fm (.int .i64 (k : Int)) rfl rfl rfl ?_
        refine wf_rs (id := .r) (rs_cutX (α := Int) (i := k) ho25 hs27.log0 (q := 0) rfl rfl rfl rfl (optN (by omega)) (by omega)) rfl rfl (by rintro _ _ _ ⟨_, _, _, hH, _⟩; simp only at hH; subst hH; exact did_r fun b hb => absurd hb List.not_mem_nil) (⟨.inl rfl, ⟨.inl rfl, ⟨.inr trivial, ⟨.inr trivial, ⟨.inr trivial, ⟨.inr trivial, trivial⟩⟩⟩⟩⟩⟩) ?_
        rintro _ _ _ ⟨a28, k28, rfl, hH28, hq28, hat28⟩ lg28 hlg28
        simp only at hH28; replace hH28 := hH28.symm; subst hH28
        have hs28 := HS.lg hs27.log0 hs27 hlg28
        generalize ({ { H27g with log := [] } with log := lg28 } : Heap) = H28g at hs28 ⊢
        refine wf_rs (id := .x (p25.map Prod.fst)) (rs_cp (α := Int) (i := k + 1) ho25 hs28.log0 (q := 0) rfl rfl hat27 (by omega) hq28 rfl rfl rfl) rfl rfl (by rintro _ _ p29 ⟨rfl, ho29, _, hwr⟩; exact did_x rfl rfl (Wr.did hwr)) (⟨.inl rfl, ⟨.inl rfl, ⟨.inl rfl, ⟨.inl rfl, ⟨.inl rfl, ⟨.inl rfl, ⟨.inl rfl, trivial⟩⟩⟩⟩⟩⟩⟩) ?_
        rintro _ H30 p29 ⟨rfl, ho29, hs30, _⟩ lg30 hlg30
        replace hs30 := HS.lg hs30 hs28 hlg30
        generalize ({ H30 with log := lg30 } : Heap) = H30g at hs30 ⊢
        have hs30 : HS _ _ _ [p29, _] _ := hs30
        have hn29 := OS.len' ho29
        refine wf_nil ?_
        refine wk_foc 1 rfl ?_
        refine wk_region ?_
        refine wro 4 0 [] 51 54 [] [(53, (.int .i64 (l.getD i 0))), (54, (.pointer (some ⟨sB (.slice a25 (ow ++ ([0] : List Int)).length k25), sO (.slice a25 (ow ++ ([0] : List Int)).length k25) + k * Rp.sz Int, none⟩)))] (vA (Sv.ix (j := (k : Int)) (OS.sv ho29 hs30 (i := 0) rfl) (by omega) (by omega)) trivial) (by kernel_rfl) rfl fun gg31 => ?_
        refine wo_rk (rs_st (α := Int) (j := k) (off := 0) (q := 0) (l.getD i 0) ho29 hs30 rfl rfl rfl rfl rfl rfl rfl rfl (getD_at (x := (0 : Int)) (by omega)) rfl (by rintro cs ⟨rfl, _⟩; exact ⟨Nat.le_of_ble_eq_true rfl, rfl, by omega⟩)) rfl ?_
        rintro _ H34 p32 ⟨ho33, hs34, _⟩
        have hs34 : HS _ _ _ [p32, _] _ := hs34
        have hnp32 := OS.len' ho33
        refine wo_end 2 rfl ?_
        refine wr 1 [] 9 9 [55] [(9, (.int .i64 ((i : Int) + 1)))] (vA (vi (n := (i : Int) + 1) (by omega)) trivial) (by kernel_rfl) rfl fun gg35 => ?_
        refine ih4 _ _ _ ?_ ⟨(cpL (ow ++ ([0] : List Int)) (k + 1) ((ow ++ ([0] : List Int)).drop k)).set k (l.getD i 0), i + 1, a25, k25, p32, _, (hF4), (HS.sub hs34 (List.sublist_append_left _ _)), (OS.norm ho33), (agC rfl (agC (show Value.slice a25 (ow ++ ([0] : List Int)).length k25 = Value.slice a25 ((cpL (ow ++ ([0] : List Int)) (k + 1) ((ow ++ ([0] : List Int)).drop k)).set k (l.getD i 0)).length k25 by rw [OS.len' ho33]) (agC rfl (agC rfl (agC rfl agN))))), rfl, (by first | assumption | omega | (simp at *; omega)), (by first | (rw [cp_ins hk h3 (by omega)]; exact uni_step (by omega) h2) | (rw [← uni_step (by omega) h2]; exact ins_same hk (by omega) (by omega)))⟩
        omega
  · have c7 := c7b
    try simp only [BS] at c7
    refine wr 1 [] 2 2 [56] [(2, (.slice la4_3 ow.length lk4_3))] trivial (by kernel_rfl) rfl fun gg36 => ?_
    refine wk_ret ⟨.inr rfl, _, rfl, la4_3, lk4_3, ow, lp4_3, _, (hF4), (HS.only hs4 (i := 0) rfl), rfl, lh4_3, (by exact uni_all (by omega) h2)⟩

set_option maxHeartbeats 1000000 in
theorem vreads_c (ex : FuncId) {aiv_5 : Option Addr} {kiv_5 : Nat} (iv : VInT) {F : Fz} {H : Heap} {R : List Fp} (hs : HS (.of H []) F H [] R) (hiv_0 : in64 iv.i.op) (hiv_1 : in64 iv.i.a) (hiv_2 : in64 iv.i.b) (hiv_3 : in64 iv.i.c) (hiv_4 : in64 iv.i.n) (hiv_5 : SR F (.slice aiv_5 iv.args.length kiv_5) iv.args) (hT : TB 37 tabC F) (hlen : iv.args.length ≤ 1048576) : C Tryd.prog 1 (KT 60 ex 37 tabC) 45 [(.agg ⟨[(.int .i64 iv.i.op), (.int .i64 iv.i.a), (.int .i64 iv.i.b), (.int .i64 iv.i.c), (.int .i64 iv.i.n), (.slice aiv_5 iv.args.length kiv_5)]⟩)] H fun v H' => ∃ (ar : Option Addr) (kr : Nat) (r : List Int) (p : Fp) (F' : Fz), Fz.le F F' ∧ HS (.of H []) F' H' [p] R ∧ v = .slice ar r.length kr ∧ OS F' (.slice ar r.length kr) r p ∧ r = readsV iv := by
  refine c_enter Tryd.func45 rfl rfl ?_
  refine wk_foc 1 rfl ?_
  refine wk_region ?_
  refine wo_rs (rs_box hs rfl rfl) rfl rfl ?_
  rintro _ H2 _ ⟨b1, rfl, hs2, _⟩
  have hs2 : HS _ _ _ [[(b1, .cells [(.int .i64 iv.i.op), (.int .i64 iv.i.a), (.int .i64 iv.i.b), (.int .i64 iv.i.c), (.int .i64 iv.i.n), (.slice aiv_5 iv.args.length kiv_5)] none false)]] _ := hs2
  refine wa (.slice none 0 0) rfl rfl rfl ?_
  refine wo_end 3 rfl ?_
  refine wr 1 [(2, .o (.int .i64 iv.i.op)), (3, .o (.bool (alV iv.i.op)))] 6 10 [] [(10, (.bool (!(alV iv.i.op))))] (vA (ql 3 0 (HS.hc hs2 (i := 0) rfl) rfl rfl) (vA (m1.valw_c_q ex iv.i.op H2) trivial)) (by kernel_rfl) rfl fun gg3 => ?_
  refine wk_if 1 2 (v := (!(alV iv.i.op))) rfl rfl rfl rfl (fun c4b => ?_) (fun c4b => ?_)
  · have c4 := c4b
    try simp only [BS] at c4
    refine wr 1 [] 2 2 [] [(2, (.slice none 0 0))] trivial (by kernel_rfl) rfl fun gg5 => ?_
    refine wk_ret ⟨.inr rfl, _, rfl, none, 0, ([] : List Int), [], _, (Fz.le_refl _), (HS.cons (HS.forget hs2)), rfl, (OS.nil : OS _ _ _ []), (by exact reads_no (by assumption))⟩
  · have c4 := c4b
    try simp only [BS] at c4
    refine wk_region ?_
    refine wro 3 0 [(2, .o (.int .i64 iv.i.op))] 12 14 [] [(14, (.int .i64 iv.i.op))] (vA (ql 3 0 (HS.hc hs2 (i := 0) rfl) rfl rfl) trivial) (by kernel_rfl) rfl fun gg6 => ?_
    refine wo_call (ap_call rfl rfl rfl) rfl rfl (m1.mInfo_c ex iv.i.op (HS.call hs2) (by omega) hT) ?_
    rintro _ H7 ⟨x7, o7, F7, hF7, hs7, rfl, hgx7_1, hgx7_6, rfl, rfl⟩
    replace hs7 := HS.back hs2 rfl hs7
    have hs7 : HS _ _ _ [_] _ := hs7
    replace hT := hT.mono hF7
    replace hiv_5 := hiv_5.mono hF7
    refine wro 3 4 [] 16 17 [11] [(16, (.agg ⟨[(.string ⟨⟨(infV iv.i.op).name.b⟩⟩), (.int .i64 ((infV iv.i.op).form)), (.bool ((infV iv.i.op).ra)), (.bool ((infV iv.i.op).wa)), (.bool ((infV iv.i.op).rb)), (.bool ((infV iv.i.op).mt)), (.int .i64 ((infV iv.i.op).words))]⟩)), (17, (.bool (infO iv.i.op)))] trivial (by kernel_rfl) rfl fun gg8 => ?_
    refine wo_rs (rs_new hs7 rfl) rfl rfl ?_
    rintro _ H10 _ ⟨b9, rfl, hs10, _⟩
    have hs10 : HS _ _ _ [_, [(b9, .cells [(.string ⟨⟨[]⟩⟩), (.int .i64 0), (.bool false), (.bool false), (.bool false), (.bool false), (.int .i64 0)] none false)]] _ := hs10
    refine wo_rk (rs_rec (q := 1) hs10 rfl rfl rfl rfl rfl rfl rfl rfl rfl) rfl ?_
    rintro _ H11 _ ⟨hs11, _⟩
    have hs11 : HS _ _ _ [_, [(b9, .cells [(.string ⟨⟨(infV iv.i.op).name.b⟩⟩), (.int .i64 ((infV iv.i.op).form)), (.bool ((infV iv.i.op).ra)), (.bool ((infV iv.i.op).wa)), (.bool ((infV iv.i.op).rb)), (.bool ((infV iv.i.op).mt)), (.int .i64 ((infV iv.i.op).words))] none false)]] _ := hs11
    refine wa (.bool (infO iv.i.op)) rfl rfl rfl ?_
    refine wo_end 2 rfl ?_
    refine wr 3 [] 1 0 [5] [(5, (.slice none 0 0))] trivial (by kernel_rfl) rfl fun gg12 => ?_
    refine wr 1 [(1, .o (.bool ((infV iv.i.op).ra)))] 18 19 [] [(19, (.bool ((infV iv.i.op).ra)))] (vA (ql 4 2 (HS.hc hs11 (i := 1) rfl) rfl rfl) trivial) (by kernel_rfl) rfl fun gg13 => ?_
    have hs15 := HS.snoc hs11
    have hs15 : HS _ _ _ [_, _, []] _ := hs15
    refine wk_join (fun f H' => ∃ (l1 : List Int) (la14_5 : Option Addr) (lk14_5 : Nat) (lp14_5 : Fp) (F' : Fz), Fz.le F7 F' ∧ HS (Base.of H []) F' H' [[(b1, .cells [(.int .i64 iv.i.op), (.int .i64 iv.i.a), (.int .i64 iv.i.b), (.int .i64 iv.i.c), (.int .i64 iv.i.n), (.slice aiv_5 iv.args.length kiv_5)] none false)], [(b9, .cells [(.string ⟨⟨(infV iv.i.op).name.b⟩⟩), (.int .i64 ((infV iv.i.op).form)), (.bool ((infV iv.i.op).ra)), (.bool ((infV iv.i.op).wa)), (.bool ((infV iv.i.op).rb)), (.bool ((infV iv.i.op).mt)), (.int .i64 ((infV iv.i.op).words))] none false)], lp14_5] R ∧ OS F' (.slice la14_5 l1.length lk14_5) l1 lp14_5 ∧ agrees f [(1, (.pointer (some ⟨b1, 0, none⟩))), (2, (.slice none 0 0)), (3, (.pointer (some ⟨b9, 0, none⟩))), (5, (.slice la14_5 l1.length lk14_5))] ∧ (l1 = if (infV iv.i.op).ra = true then [iv.i.a] else [])) (fun jn14 => ?_) ?_
    · skip
      refine wk_if 0 0 (v := ((infV iv.i.op).ra)) rfl rfl rfl rfl (fun c16b => ?_) (fun c16b => ?_)
      · have c16 := c16b
        try simp only [BS] at c16
        refine wk_region ?_
        refine wro 4 0 [(3, .o (.int .i64 iv.i.a))] 20 23 [] [(20, (.slice none 0 0)), (23, (.int .i64 iv.i.a))] (vA (ql 3 1 (HS.hc hs15 (i := 0) rfl) rfl rfl) trivial) (by kernel_rfl) rfl fun gg17 => ?_
        refine wo_rs (rs_lit (α := Int) (ps := [(0, (.int .i64 iv.i.a))]) (cells := [(.int .i64 iv.i.a)]) ([iv.i.a] : List Int) hs15 rfl rfl rfl (by kernel_rfl) ⟨[(.int .i64 iv.i.a)], [], rfl, ⟨rfl, by omega⟩, rfl⟩ rfl) rfl rfl ?_
        rintro _ H19 p18 ⟨a18, k18, rfl, ho18, hs19, _⟩
        have hs19 : HS _ _ _ [_, _, _, p18] _ := hs19
        refine wo_rs (rs_app (α := Int) (q := 2) (OS.nil : OS F7 (.slice none 0 0) ([] : List Int) []) hs19 rfl rfl rfl (OS.sv ho18 hs19 (i := 3) rfl) rfl rfl rfl rfl rfl rfl rfl (by first | omega | (simp only [List.length_cons, List.length_nil]; omega))) rfl rfl ?_
        rintro _ H21 p20 ⟨a20, k20, rfl, ho20, hs21, _⟩
        have hs21 : HS _ _ _ [_, _, p20, _] _ := hs21
        have ho20 : OS F7 (.slice a20 ([iv.i.a] : List Int).length k20) ([iv.i.a] : List Int) p20 := ho20
        refine wa (.slice a20 ([iv.i.a] : List Int).length k20) rfl rfl rfl ?_
        refine wo_end 0 rfl ?_
        exact jn14 _ _ ⟨([iv.i.a] : List Int), a20, k20, p20, _, (Fz.le_refl _), (HS.sub hs21 (List.sublist_append_left _ _)), ho20, (agC rfl (agC rfl (agC rfl (agC rfl agN)))), (by first | (rw [if_pos (by first | assumption | omega)]; done) | (rw [if_neg (by first | omega | (intro hh; simp_all; done))]; done) | (rw [if_neg (by first | omega | (intro hh; simp_all; done)), List.append_nil]))⟩
      · have c16 := c16b
        try simp only [BS] at c16
        exact jn14 _ _ ⟨([] : List Int), none, 0, [], _, (Fz.le_refl _), hs15, (OS.nil : OS F7 (.slice none 0 0) ([] : List Int) []), (agC rfl (agC rfl (agC rfl (agC rfl agN)))), (by first | (rw [if_pos (by first | assumption | omega)]; done) | (rw [if_neg (by first | omega | (intro hh; simp_all; done))]; done) | (rw [if_neg (by first | omega | (intro hh; simp_all; done)), List.append_nil]))⟩
    · skip
      rintro f14 H14 ⟨l1, la14_5, lk14_5, lp14_5, F14, hF14, hs14, lh14_5, hf14, q1⟩
      refine wk_canon _ hf14 (fun gg14 => ?_)
      clear hf14
      replace hT := hT.mono hF14
      replace hiv_5 := hiv_5.mono hF14
      have n1 : l1.length ≤ 1 := by rw [q1]; exact one_len
      refine wk_foc 3 rfl ?_
      refine wr 1 [(1, .o (.bool ((infV iv.i.op).rb)))] 26 27 [] [(27, (.bool ((infV iv.i.op).rb)))] (vA (ql 4 4 (HS.hc hs14 (i := 1) rfl) rfl rfl) trivial) (by kernel_rfl) rfl fun gg22 => ?_
      refine wk_join (fun f H' => ∃ (l2 : List Int) (la23_5 : Option Addr) (lk23_5 : Nat) (lp23_5 : Fp) (F' : Fz), Fz.le F14 F' ∧ HS (Base.of H []) F' H' [[(b1, .cells [(.int .i64 iv.i.op), (.int .i64 iv.i.a), (.int .i64 iv.i.b), (.int .i64 iv.i.c), (.int .i64 iv.i.n), (.slice aiv_5 iv.args.length kiv_5)] none false)], [(b9, .cells [(.string ⟨⟨(infV iv.i.op).name.b⟩⟩), (.int .i64 ((infV iv.i.op).form)), (.bool ((infV iv.i.op).ra)), (.bool ((infV iv.i.op).wa)), (.bool ((infV iv.i.op).rb)), (.bool ((infV iv.i.op).mt)), (.int .i64 ((infV iv.i.op).words))] none false)], lp23_5] R ∧ OS F' (.slice la23_5 l2.length lk23_5) l2 lp23_5 ∧ agrees f [(1, (.pointer (some ⟨b1, 0, none⟩))), (2, (.slice none 0 0)), (5, (.slice la23_5 l2.length lk23_5))] ∧ (l2 = l1 ++ if (infV iv.i.op).rb = true then [iv.i.b] else [])) (fun jn23 => ?_) ?_
      · skip
        refine wk_if 0 0 (v := ((infV iv.i.op).rb)) rfl rfl rfl rfl (fun c24b => ?_) (fun c24b => ?_)
        · have c24 := c24b
          try simp only [BS] at c24
          refine wk_region ?_
          refine wro 4 0 [(3, .o (.int .i64 iv.i.b))] 28 31 [] [(28, (.slice la14_5 l1.length lk14_5)), (31, (.int .i64 iv.i.b))] (vA (ql 3 2 (HS.hc hs14 (i := 0) rfl) rfl rfl) trivial) (by kernel_rfl) rfl fun gg25 => ?_
          refine wo_rs (rs_lit (α := Int) (ps := [(0, (.int .i64 iv.i.b))]) (cells := [(.int .i64 iv.i.b)]) ([iv.i.b] : List Int) hs14 rfl rfl rfl (by kernel_rfl) ⟨[(.int .i64 iv.i.b)], [], rfl, ⟨rfl, by omega⟩, rfl⟩ rfl) rfl rfl ?_
          rintro _ H27 p26 ⟨a26, k26, rfl, ho26, hs27, _⟩
          have hs27 : HS _ _ _ [_, _, lp14_5, p26] _ := hs27
          refine wo_rs (rs_app (α := Int) (q := 2) lh14_5 hs27 rfl rfl rfl (OS.sv ho26 hs27 (i := 3) rfl) rfl rfl rfl rfl rfl rfl rfl (by first | omega | (simp only [List.length_cons, List.length_nil]; omega))) rfl rfl ?_
          rintro _ H29 p28 ⟨a28, k28, rfl, ho28, hs29, _⟩
          have hs29 : HS _ _ _ [_, _, p28, _] _ := hs29
          refine wa (.slice a28 (l1 ++ ([iv.i.b] : List Int)).length k28) rfl rfl rfl ?_
          refine wo_end 0 rfl ?_
          exact jn23 _ _ ⟨l1 ++ ([iv.i.b] : List Int), a28, k28, p28, _, (Fz.le_refl _), (HS.sub hs29 (List.sublist_append_left _ _)), ho28, (agC rfl (agC rfl (agC rfl agN))), (by first | (rw [if_pos (by first | assumption | omega)]; done) | (rw [if_neg (by first | omega | (intro hh; simp_all; done))]; done) | (rw [if_neg (by first | omega | (intro hh; simp_all; done)), List.append_nil]))⟩
        · have c24 := c24b
          try simp only [BS] at c24
          exact jn23 _ _ ⟨l1, la14_5, lk14_5, lp14_5, _, (Fz.le_refl _), hs14, lh14_5, (agC rfl (agC rfl (agC rfl agN))), (by first | (rw [if_pos (by first | assumption | omega)]; done) | (rw [if_neg (by first | omega | (intro hh; simp_all; done))]; done) | (rw [if_neg (by first | omega | (intro hh; simp_all; done)), List.append_nil]))⟩
      · skip
        rintro f23 H23 ⟨l2, la23_5, lk23_5, lp23_5, F23, hF23, hs23, lh23_5, hf23, q2⟩
        refine wk_canon _ hf23 (fun gg23 => ?_)
        clear hf23
        replace hT := hT.mono hF23
        replace hiv_5 := hiv_5.mono hF23
        have n2 : l2.length ≤ 2 := by rw [q2, List.length_append]; exact Nat.add_le_add n1 one_len
        refine wk_foc 3 rfl ?_
        refine wr 1 [(2, .o (.int .i64 iv.i.op)), (7, .o (.int .i64 iv.i.op))] 34 43 [] [(43, (.bool ((iv.i.op == 11) || (iv.i.op == 12))))] (vA (ql 3 0 (HS.hc hs23 (i := 0) rfl) rfl rfl) (vA (fun (g1 : (iv.i.op == 11) = false) => (ql 3 0 (HS.hc hs23 (i := 0) rfl) rfl rfl)) trivial)) (by kernel_rfl) rfl fun gg30 => ?_
        refine wk_join (fun f H' => ∃ (l3 : List Int) (la31_5 : Option Addr) (lk31_5 : Nat) (lp31_5 : Fp) (F' : Fz), Fz.le F23 F' ∧ HS (Base.of H []) F' H' [[(b1, .cells [(.int .i64 iv.i.op), (.int .i64 iv.i.a), (.int .i64 iv.i.b), (.int .i64 iv.i.c), (.int .i64 iv.i.n), (.slice aiv_5 iv.args.length kiv_5)] none false)], [(b9, .cells [(.string ⟨⟨(infV iv.i.op).name.b⟩⟩), (.int .i64 ((infV iv.i.op).form)), (.bool ((infV iv.i.op).ra)), (.bool ((infV iv.i.op).wa)), (.bool ((infV iv.i.op).rb)), (.bool ((infV iv.i.op).mt)), (.int .i64 ((infV iv.i.op).words))] none false)], lp31_5] R ∧ OS F' (.slice la31_5 l3.length lk31_5) l3 lp31_5 ∧ agrees f [(1, (.pointer (some ⟨b1, 0, none⟩))), (2, (.slice none 0 0)), (5, (.slice la31_5 l3.length lk31_5))] ∧ (l3 = l2 ++ if iv.i.op = 11 ∨ iv.i.op = 12 then [iv.i.c] else [])) (fun jn31 => ?_) ?_
        · skip
          refine wk_if 0 0 (v := ((iv.i.op == 11) || (iv.i.op == 12))) rfl rfl rfl rfl (fun c32b => ?_) (fun c32b => ?_)
          · have c32 := c32b
            try simp only [BS] at c32
            refine wk_region ?_
            refine wro 4 0 [(3, .o (.int .i64 iv.i.c))] 44 47 [] [(44, (.slice la23_5 l2.length lk23_5)), (47, (.int .i64 iv.i.c))] (vA (ql 3 3 (HS.hc hs23 (i := 0) rfl) rfl rfl) trivial) (by kernel_rfl) rfl fun gg33 => ?_
            refine wo_rs (rs_lit (α := Int) (ps := [(0, (.int .i64 iv.i.c))]) (cells := [(.int .i64 iv.i.c)]) ([iv.i.c] : List Int) hs23 rfl rfl rfl (by kernel_rfl) ⟨[(.int .i64 iv.i.c)], [], rfl, ⟨rfl, by omega⟩, rfl⟩ rfl) rfl rfl ?_
            rintro _ H35 p34 ⟨a34, k34, rfl, ho34, hs35, _⟩
            have hs35 : HS _ _ _ [_, _, lp23_5, p34] _ := hs35
            refine wo_rs (rs_app (α := Int) (q := 2) lh23_5 hs35 rfl rfl rfl (OS.sv ho34 hs35 (i := 3) rfl) rfl rfl rfl rfl rfl rfl rfl (by first | omega | (simp only [List.length_cons, List.length_nil]; omega))) rfl rfl ?_
            rintro _ H37 p36 ⟨a36, k36, rfl, ho36, hs37, _⟩
            have hs37 : HS _ _ _ [_, _, p36, _] _ := hs37
            refine wa (.slice a36 (l2 ++ ([iv.i.c] : List Int)).length k36) rfl rfl rfl ?_
            refine wo_end 0 rfl ?_
            exact jn31 _ _ ⟨l2 ++ ([iv.i.c] : List Int), a36, k36, p36, _, (Fz.le_refl _), (HS.sub hs37 (List.sublist_append_left _ _)), ho36, (agC rfl (agC rfl (agC rfl agN))), (by first | (rw [if_pos (by first | assumption | omega)]; done) | (rw [if_neg (by first | omega | (intro hh; simp_all; done))]; done) | (rw [if_neg (by first | omega | (intro hh; simp_all; done)), List.append_nil]))⟩
          · have c32 := c32b
            try simp only [BS] at c32
            exact jn31 _ _ ⟨l2, la23_5, lk23_5, lp23_5, _, (Fz.le_refl _), hs23, lh23_5, (agC rfl (agC rfl (agC rfl agN))), (by first | (rw [if_pos (by first | assumption | omega)]; done) | (rw [if_neg (by first | omega | (intro hh; simp_all; done))]; done) | (rw [if_neg (by first | omega | (intro hh; simp_all; done)), List.append_nil]))⟩
        · skip
          rintro f31 H31 ⟨l3, la31_5, lk31_5, lp31_5, F31, hF31, hs31, lh31_5, hf31, q3⟩
          refine wk_canon _ hf31 (fun gg31 => ?_)
          clear hf31
          replace hT := hT.mono hF31
          replace hiv_5 := hiv_5.mono hF31
          have n3 : l3.length ≤ 3 := by rw [q3, List.length_append]; exact Nat.add_le_add n2 one_len
          refine wk_foc 3 rfl ?_
          refine wr 1 [(2, .o (.int .i64 iv.i.op))] 50 53 [] [(53, (.bool (iv.i.op == 6)))] (vA (ql 3 0 (HS.hc hs31 (i := 0) rfl) rfl rfl) trivial) (by kernel_rfl) rfl fun gg38 => ?_
          refine wk_join (fun f H' => ∃ (l4 : List Int) (la39_5 : Option Addr) (lk39_5 : Nat) (lp39_5 : Fp) (F' : Fz), Fz.le F31 F' ∧ HS (Base.of H []) F' H' [[(b1, .cells [(.int .i64 iv.i.op), (.int .i64 iv.i.a), (.int .i64 iv.i.b), (.int .i64 iv.i.c), (.int .i64 iv.i.n), (.slice aiv_5 iv.args.length kiv_5)] none false)], [(b9, .cells [(.string ⟨⟨(infV iv.i.op).name.b⟩⟩), (.int .i64 ((infV iv.i.op).form)), (.bool ((infV iv.i.op).ra)), (.bool ((infV iv.i.op).wa)), (.bool ((infV iv.i.op).rb)), (.bool ((infV iv.i.op).mt)), (.int .i64 ((infV iv.i.op).words))] none false)], lp39_5] R ∧ OS F' (.slice la39_5 l4.length lk39_5) l4 lp39_5 ∧ agrees f [(2, (.slice none 0 0)), (5, (.slice la39_5 l4.length lk39_5))] ∧ (l4 = l3 ++ if iv.i.op = 6 then iv.args else [])) (fun jn39 => ?_) ?_
          · skip
            refine wk_if 0 0 (v := (iv.i.op == 6)) rfl rfl rfl rfl (fun c40b => ?_) (fun c40b => ?_)
            · have c40 := c40b
              try simp only [BS] at c40
              refine wk_region ?_
              refine wro 3 0 [(2, .o (.slice aiv_5 iv.args.length kiv_5))] 54 56 [] [(54, (.slice la31_5 l3.length lk31_5)), (56, (.slice aiv_5 iv.args.length kiv_5))] (vA (ql 25 5 (HS.hc hs31 (i := 0) rfl) rfl rfl) trivial) (by kernel_rfl) rfl fun gg41 => ?_
              refine wo_rs (rs_app (α := Int) (q := 2) lh31_5 hs31 rfl rfl rfl (SR.sv hiv_5 hs31) rfl rfl rfl rfl rfl rfl rfl (by first | omega | (simp only [List.length_append, List.length_cons, List.length_nil]; omega))) rfl rfl ?_
              rintro _ H43 p42 ⟨a42, k42, rfl, ho42, hs43, _⟩
              have hs43 : HS _ _ _ [_, _, p42] _ := hs43
              refine wa (.slice a42 (l3 ++ iv.args).length k42) rfl rfl rfl ?_
              refine wo_end 0 rfl ?_
              exact jn39 _ _ ⟨l3 ++ iv.args, a42, k42, p42, _, (Fz.le_refl _), hs43, ho42, (agC rfl (agC rfl agN)), (by first | (rw [if_pos (by first | assumption | omega)]; done) | (rw [if_neg (by first | omega | (intro hh; simp_all; done))]; done) | (rw [if_neg (by first | omega | (intro hh; simp_all; done)), List.append_nil]))⟩
            · have c40 := c40b
              try simp only [BS] at c40
              exact jn39 _ _ ⟨l3, la31_5, lk31_5, lp31_5, _, (Fz.le_refl _), hs31, lh31_5, (agC rfl (agC rfl agN)), (by first | (rw [if_pos (by first | assumption | omega)]; done) | (rw [if_neg (by first | omega | (intro hh; simp_all; done))]; done) | (rw [if_neg (by first | omega | (intro hh; simp_all; done)), List.append_nil]))⟩
          · skip
            rintro f39 H39 ⟨l4, la39_5, lk39_5, lp39_5, F39, hF39, hs39, lh39_5, hf39, q4⟩
            refine wk_canon _ hf39 (fun gg39 => ?_)
            clear hf39
            replace hT := hT.mono hF39
            replace hiv_5 := hiv_5.mono hF39
            have n4 : l4.length ≤ 1048579 := by rw [q4, List.length_append]; (have hq : (if iv.i.op = 6 then iv.args else []).length ≤ iv.args.length := by split <;> first | exact Nat.le_refl _ | exact Nat.zero_le _); omega
            refine wk_foc 2 rfl ?_
            refine wk_region ?_
            refine wm (.slice la39_5 l4.length lk39_5) rfl rfl rfl ?_
            obtain ⟨F44, hF44, hs44, hr44, hp44⟩ := OS.frz lh39_5 hs39 (i := 2) rfl
            have hs44 : HS _ _ _ [_, _, _] _ := hs44
            replace hT := hT.mono hF44
            replace hiv_5 := hiv_5.mono hF44
            replace lh39_5 := lh39_5.mono hF44
            refine wo_call (ap_call rfl rfl rfl) rfl rfl (unique_c ex l4 (HS.call hs44) hr44 hT (by omega)) ?_
            rintro _ H45 ⟨ar45, kr45, r45, p45, F45, hF45, hs45, rfl, hrr45, rfl⟩
            replace hs45 := HS.back hs44 rfl hs45
            have hs45 : HS _ _ _ [_, _, _, p45] _ := hs45
            replace hT := hT.mono hF45
            replace hiv_5 := hiv_5.mono hF45
            replace hr44 := hr44.mono hF45
            refine wa (.slice ar45 (uniV [] l4).length kr45) rfl rfl rfl ?_
            refine wo_end 1 rfl ?_
            refine wk_ret ⟨.inr rfl, _, rfl, ar45, kr45, uniV [] l4, p45, _, (Fz.le_trans (Fz.le_trans (Fz.le_trans (Fz.le_trans (Fz.le_trans (Fz.le_trans (hF7) hF14) hF23) hF31) hF39) hF44) hF45), (HS.only hs45 (i := 3) rfl), rfl, hrr45, (by exact reads_yes (by assumption) (by simp only [q4, q3, q2, q1, readsL, List.append_assoc]))⟩

set_option maxHeartbeats 1000000 in
theorem rreads_c (ex : FuncId) {aiv_5 : Option Addr} {kiv_5 : Nat} (iv : VInT) {F : Fz} {H : Heap} {R : List Fp} (hs : HS (.of H []) F H [] R) (hiv_0 : in64 iv.i.op) (hiv_1 : in64 iv.i.a) (hiv_2 : in64 iv.i.b) (hiv_3 : in64 iv.i.c) (hiv_4 : in64 iv.i.n) (hiv_5 : SR F (.slice aiv_5 iv.args.length kiv_5) iv.args) (hT : TB 37 tabC F) (hlen : iv.args.length ≤ 1048576) : C Tryd.prog 1 (KT 60 ex 37 tabC) 31 [(.agg ⟨[(.int .i64 iv.i.op), (.int .i64 iv.i.a), (.int .i64 iv.i.b), (.int .i64 iv.i.c), (.int .i64 iv.i.n), (.slice aiv_5 iv.args.length kiv_5)]⟩)] H fun v H' => ∃ (ar : Option Addr) (kr : Nat) (r : List Int) (F' : Fz), Fz.le F F' ∧ HS (.of H []) F' H' [] R ∧ v = .slice ar r.length kr ∧ SR F' (.slice ar r.length kr) r ∧ r = readsV iv := by
  refine c_enter Tryd.func31 rfl rfl ?_
  refine wk_foc 1 rfl ?_
  refine wk_region ?_
  refine wo_rs (rs_box hs rfl rfl) rfl rfl ?_
  rintro _ H2 _ ⟨b1, rfl, hs2, _⟩
  have hs2 : HS _ _ _ [[(b1, .cells [(.int .i64 iv.i.op), (.int .i64 iv.i.a), (.int .i64 iv.i.b), (.int .i64 iv.i.c), (.int .i64 iv.i.n), (.slice aiv_5 iv.args.length kiv_5)] none false)]] _ := hs2
  refine wa (.slice none 0 0) rfl rfl rfl ?_
  refine wo_end 2 rfl ?_
  refine wr 3 [] 1 0 [3] [(3, (.slice none 0 0))] trivial (by kernel_rfl) rfl fun gg3 => ?_
  refine wr 1 [(2, .o (.int .i64 iv.i.op)), (3, .o (.bool (alV iv.i.op)))] 6 10 [] [(10, (.bool (!(alV iv.i.op))))] (vA (ql 3 0 (HS.hc hs2 (i := 0) rfl) rfl rfl) (vA (m1.ralw_c_q ex iv.i.op H2) trivial)) (by kernel_rfl) rfl fun gg4 => ?_
  refine wk_if 1 2 (v := (!(alV iv.i.op))) rfl rfl rfl rfl (fun c5b => ?_) (fun c5b => ?_)
  · have c5 := c5b
    try simp only [BS] at c5
    refine wr 1 [] 2 2 [11] [(2, (.slice none 0 0))] trivial (by kernel_rfl) rfl fun gg6 => ?_
    refine wk_ret ⟨.inr rfl, _, rfl, none, 0, ([] : List Int), _, (Fz.le_refl _), (HS.forget hs2), rfl, (SR.nil : SR F (.slice none 0 0) ([] : List Int)), (by exact reads_no (by assumption))⟩
  · have c5 := c5b
    try simp only [BS] at c5
    have hal : alV iv.i.op = true := by assumption
    refine wk_region ?_
    refine wro 3 0 [(2, .o (.int .i64 iv.i.op))] 12 14 [] [(14, (.int .i64 iv.i.op))] (vA (ql 3 0 (HS.hc hs2 (i := 0) rfl) rfl rfl) trivial) (by kernel_rfl) rfl fun gg7 => ?_
    refine wo_call (ap_call rfl rfl rfl) rfl rfl (m3.rinfo_c ex iv.i.op (HS.call hs2) (by first | omega | (dsimp only; omega) | (simp <;> omega)) hT) ?_
    rintro _ H8 ⟨x8, F8, hF8, hs8, rfl, hgx8_1, hgx8_6, rfl⟩
    replace hs8 := HS.back hs2 rfl hs8
    have hs8 : HS _ _ _ [_] _ := hs8
    replace hT := hT.mono hF8
    replace hiv_5 := hiv_5.mono hF8
    refine wo_rs (rs_new hs8 rfl) rfl rfl ?_
    rintro _ H10 _ ⟨b9, rfl, hs10, _⟩
    have hs10 : HS _ _ _ [_, [(b9, .cells [(.string ⟨⟨[]⟩⟩), (.int .i64 0), (.bool false), (.bool false), (.bool false), (.bool false), (.int .i64 0)] none false)]] _ := hs10
    refine wo_rk (rs_rec (q := 1) hs10 rfl rfl rfl rfl rfl rfl rfl rfl rfl) rfl ?_
    rintro _ H11 _ ⟨hs11, _⟩
    have hs11 : HS _ _ _ [_, [(b9, .cells [(.string ⟨⟨(vinfV iv.i.op).name.b⟩⟩), (.int .i64 ((vinfV iv.i.op).form)), (.bool ((vinfV iv.i.op).ra)), (.bool ((vinfV iv.i.op).wa)), (.bool ((vinfV iv.i.op).rb)), (.bool ((vinfV iv.i.op).mt)), (.int .i64 ((vinfV iv.i.op).words))] none false)]] _ := hs11
    refine wo_end 3 rfl ?_
    refine wr 1 [(1, .o (.bool ((vinfV iv.i.op).ra)))] 16 17 [] [(17, (.bool ((vinfV iv.i.op).ra)))] (vA (ql 4 2 (HS.hc hs11 (i := 1) rfl) rfl rfl) trivial) (by kernel_rfl) rfl fun gg12 => ?_
    refine wk_join (fun f H' => ∃ (l1 : List Int) (la13_3 : Option Addr) (lk13_3 : Nat) (F' : Fz), Fz.le F8 F' ∧ HS (Base.of H []) F' H' [[(b1, .cells [(.int .i64 iv.i.op), (.int .i64 iv.i.a), (.int .i64 iv.i.b), (.int .i64 iv.i.c), (.int .i64 iv.i.n), (.slice aiv_5 iv.args.length kiv_5)] none false)], [(b9, .cells [(.string ⟨⟨(vinfV iv.i.op).name.b⟩⟩), (.int .i64 ((vinfV iv.i.op).form)), (.bool ((vinfV iv.i.op).ra)), (.bool ((vinfV iv.i.op).wa)), (.bool ((vinfV iv.i.op).rb)), (.bool ((vinfV iv.i.op).mt)), (.int .i64 ((vinfV iv.i.op).words))] none false)]] R ∧ SR F' (.slice la13_3 l1.length lk13_3) l1 ∧ agrees f [(1, (.pointer (some ⟨b1, 0, none⟩))), (2, (.slice none 0 0)), (3, (.slice la13_3 l1.length lk13_3)), (4, (.pointer (some ⟨b9, 0, none⟩)))] ∧ (l1 = uniV [] (if (infV iv.i.op).ra = true then [iv.i.a] else []))) (fun jn13 => ?_) ?_
    · skip
      refine wk_if 0 0 (v := ((vinfV iv.i.op).ra)) rfl rfl rfl rfl (fun c14b => ?_) (fun c14b => ?_)
      · have c14 := c14b
        try simp only [BS] at c14
        refine wk_region ?_
        refine wro 4 0 [(3, .o (.int .i64 iv.i.a))] 18 21 [] [(18, (.slice none 0 0)), (21, (.int .i64 iv.i.a))] (vA (ql 3 1 (HS.hc hs11 (i := 0) rfl) rfl rfl) trivial) (by kernel_rfl) rfl fun gg15 => ?_
        refine wo_call (ap_call rfl rfl rfl) rfl rfl (m6.insert_c ex ([] : List Int) iv.i.a (HS.call hs11) (SR.nil : SR F8 (.slice none 0 0) ([] : List Int)) (by first | omega | (dsimp only; omega) | (simp <;> omega)) hT (by first | omega | (dsimp only; omega) | (simp <;> omega))) ?_
        rintro _ H16 ⟨ar16, kr16, r16, F16, hF16, hs16, rfl, hrr16, rfl⟩
        replace hs16 := HS.back hs11 rfl hs16
        have hs16 : HS _ _ _ [_, _] _ := hs16
        replace hT := hT.mono hF16
        replace hiv_5 := hiv_5.mono hF16
        refine wa (.slice ar16 (insV ([] : List Int) iv.i.a).length kr16) rfl rfl rfl ?_
        refine wo_end 0 rfl ?_
        exact jn13 _ _ ⟨insV ([] : List Int) iv.i.a, ar16, kr16, _, (hF16), hs16, hrr16, (agC rfl (agC rfl (agC rfl (agC rfl agN)))), (by first | exact rrT (by rw [← vra]; assumption) | exact rrF (by rw [← vra]; simp_all))⟩
      · have c14 := c14b
        try simp only [BS] at c14
        exact jn13 _ _ ⟨([] : List Int), none, 0, _, (Fz.le_refl _), hs11, (SR.nil : SR F8 (.slice none 0 0) ([] : List Int)), (agC rfl (agC rfl (agC rfl (agC rfl agN)))), (by first | exact rrT (by rw [← vra]; assumption) | exact rrF (by rw [← vra]; simp_all))⟩
    · skip
      rintro f13 H13 ⟨l1, la13_3, lk13_3, F13, hF13, hs13, lh13_3, hf13, q1⟩
      refine wk_canon _ hf13 (fun gg13 => ?_)
      clear hf13
      replace hT := hT.mono hF13
      replace hiv_5 := hiv_5.mono hF13
      have n1 := rr_len1 q1
      refine wk_foc 3 rfl ?_
      refine wr 1 [(1, .o (.bool ((vinfV iv.i.op).rb)))] 23 24 [] [(24, (.bool ((vinfV iv.i.op).rb)))] (vA (ql 4 4 (HS.hc hs13 (i := 1) rfl) rfl rfl) trivial) (by kernel_rfl) rfl fun gg17 => ?_
      refine wk_join (fun f H' => ∃ (l2 : List Int) (la18_3 : Option Addr) (lk18_3 : Nat) (F' : Fz), Fz.le F13 F' ∧ HS (Base.of H []) F' H' [[(b1, .cells [(.int .i64 iv.i.op), (.int .i64 iv.i.a), (.int .i64 iv.i.b), (.int .i64 iv.i.c), (.int .i64 iv.i.n), (.slice aiv_5 iv.args.length kiv_5)] none false)], [(b9, .cells [(.string ⟨⟨(vinfV iv.i.op).name.b⟩⟩), (.int .i64 ((vinfV iv.i.op).form)), (.bool ((vinfV iv.i.op).ra)), (.bool ((vinfV iv.i.op).wa)), (.bool ((vinfV iv.i.op).rb)), (.bool ((vinfV iv.i.op).mt)), (.int .i64 ((vinfV iv.i.op).words))] none false)]] R ∧ SR F' (.slice la18_3 l2.length lk18_3) l2 ∧ agrees f [(1, (.pointer (some ⟨b1, 0, none⟩))), (2, (.slice none 0 0)), (3, (.slice la18_3 l2.length lk18_3)), (4, (.pointer (some ⟨b9, 0, none⟩)))] ∧ (l2 = uniV l1 (if (infV iv.i.op).rb = true then [iv.i.b] else []))) (fun jn18 => ?_) ?_
      · skip
        refine wk_if 0 0 (v := ((vinfV iv.i.op).rb)) rfl rfl rfl rfl (fun c19b => ?_) (fun c19b => ?_)
        · have c19 := c19b
          try simp only [BS] at c19
          refine wk_region ?_
          refine wro 4 0 [(3, .o (.int .i64 iv.i.b))] 25 28 [] [(25, (.slice la13_3 l1.length lk13_3)), (28, (.int .i64 iv.i.b))] (vA (ql 3 2 (HS.hc hs13 (i := 0) rfl) rfl rfl) trivial) (by kernel_rfl) rfl fun gg20 => ?_
          refine wo_call (ap_call rfl rfl rfl) rfl rfl (m6.insert_c ex l1 iv.i.b (HS.call hs13) lh13_3 (by first | omega | (dsimp only; omega) | (simp <;> omega)) hT (by first | omega | (dsimp only; omega) | (simp <;> omega))) ?_
          rintro _ H21 ⟨ar21, kr21, r21, F21, hF21, hs21, rfl, hrr21, rfl⟩
          replace hs21 := HS.back hs13 rfl hs21
          have hs21 : HS _ _ _ [_, _] _ := hs21
          replace hT := hT.mono hF21
          replace hiv_5 := hiv_5.mono hF21
          replace lh13_3 := lh13_3.mono hF21
          refine wa (.slice ar21 (insV l1 iv.i.b).length kr21) rfl rfl rfl ?_
          refine wo_end 0 rfl ?_
          exact jn18 _ _ ⟨insV l1 iv.i.b, ar21, kr21, _, (hF21), hs21, hrr21, (agC rfl (agC rfl (agC rfl (agC rfl agN)))), (by first | exact rrT (by rw [← vrb]; assumption) | exact rrF (by rw [← vrb]; simp_all))⟩
        · have c19 := c19b
          try simp only [BS] at c19
          exact jn18 _ _ ⟨l1, la13_3, lk13_3, _, (Fz.le_refl _), hs13, lh13_3, (agC rfl (agC rfl (agC rfl (agC rfl agN)))), (by first | exact rrT (by rw [← vrb]; assumption) | exact rrF (by rw [← vrb]; simp_all))⟩
      · skip
        rintro f18 H18 ⟨l2, la18_3, lk18_3, F18, hF18, hs18, lh18_3, hf18, q2⟩
        refine wk_canon _ hf18 (fun gg18 => ?_)
        clear hf18
        replace hT := hT.mono hF18
        replace hiv_5 := hiv_5.mono hF18
        have n2 := rr_len2 n1 q2
        refine wk_foc 3 rfl ?_
        refine wr 1 [(1, .o (.int .i64 ((vinfV iv.i.op).form)))] 30 32 [] [(32, (.bool ((vinfV iv.i.op).form == 4)))] (vA (ql 3 1 (HS.hc hs18 (i := 1) rfl) rfl rfl) trivial) (by kernel_rfl) rfl fun gg22 => ?_
        refine wk_join (fun f H' => ∃ (l3 : List Int) (la23_3 : Option Addr) (lk23_3 : Nat) (F' : Fz), Fz.le F18 F' ∧ HS (Base.of H []) F' H' [[(b1, .cells [(.int .i64 iv.i.op), (.int .i64 iv.i.a), (.int .i64 iv.i.b), (.int .i64 iv.i.c), (.int .i64 iv.i.n), (.slice aiv_5 iv.args.length kiv_5)] none false)], [(b9, .cells [(.string ⟨⟨(vinfV iv.i.op).name.b⟩⟩), (.int .i64 ((vinfV iv.i.op).form)), (.bool ((vinfV iv.i.op).ra)), (.bool ((vinfV iv.i.op).wa)), (.bool ((vinfV iv.i.op).rb)), (.bool ((vinfV iv.i.op).mt)), (.int .i64 ((vinfV iv.i.op).words))] none false)]] R ∧ SR F' (.slice la23_3 l3.length lk23_3) l3 ∧ agrees f [(1, (.pointer (some ⟨b1, 0, none⟩))), (2, (.slice none 0 0)), (3, (.slice la23_3 l3.length lk23_3))] ∧ (l3 = uniV l2 (if iv.i.op = 11 ∨ iv.i.op = 12 then [iv.i.c] else []))) (fun jn23 => ?_) ?_
        · skip
          refine wk_if 0 0 (v := ((vinfV iv.i.op).form == 4)) rfl rfl rfl rfl (fun c24b => ?_) (fun c24b => ?_)
          · have c24 := c24b
            try simp only [BS] at c24
            refine wk_region ?_
            refine wro 4 0 [(3, .o (.int .i64 iv.i.c))] 33 36 [] [(33, (.slice la18_3 l2.length lk18_3)), (36, (.int .i64 iv.i.c))] (vA (ql 3 3 (HS.hc hs18 (i := 0) rfl) rfl rfl) trivial) (by kernel_rfl) rfl fun gg25 => ?_
            refine wo_call (ap_call rfl rfl rfl) rfl rfl (m6.insert_c ex l2 iv.i.c (HS.call hs18) lh18_3 (by first | omega | (dsimp only; omega) | (simp <;> omega)) hT (by first | omega | (dsimp only; omega) | (simp <;> omega))) ?_
            rintro _ H26 ⟨ar26, kr26, r26, F26, hF26, hs26, rfl, hrr26, rfl⟩
            replace hs26 := HS.back hs18 rfl hs26
            have hs26 : HS _ _ _ [_, _] _ := hs26
            replace hT := hT.mono hF26
            replace hiv_5 := hiv_5.mono hF26
            replace lh18_3 := lh18_3.mono hF26
            refine wa (.slice ar26 (insV l2 iv.i.c).length kr26) rfl rfl rfl ?_
            refine wo_end 0 rfl ?_
            exact jn23 _ _ ⟨insV l2 iv.i.c, ar26, kr26, _, (hF26), hs26, hrr26, (agC rfl (agC rfl (agC rfl agN))), (by first | exact rrT ((vf4 hal).1 (by assumption)) | exact rrF (fun hh => absurd ((vf4 hal).2 hh) (by omega)))⟩
          · have c24 := c24b
            try simp only [BS] at c24
            exact jn23 _ _ ⟨l2, la18_3, lk18_3, _, (Fz.le_refl _), hs18, lh18_3, (agC rfl (agC rfl (agC rfl agN))), (by first | exact rrT ((vf4 hal).1 (by assumption)) | exact rrF (fun hh => absurd ((vf4 hal).2 hh) (by omega)))⟩
        · skip
          rintro f23 H23 ⟨l3, la23_3, lk23_3, F23, hF23, hs23, lh23_3, hf23, q3⟩
          refine wk_canon _ hf23 (fun gg23 => ?_)
          clear hf23
          replace hT := hT.mono hF23
          replace hiv_5 := hiv_5.mono hF23
          refine wk_foc 3 rfl ?_
          refine wr 2 [] 1 0 [5] [(5, (.int .i64 0))] trivial (by kernel_rfl) rfl fun gg27 => ?_
          refine wk_loop_inv (fun (mm : Nat) f H' => ∃ (l4 : List Int) (k : Nat) (la28_3 : Option Addr) (lk28_3 : Nat) (F' : Fz), Fz.le F23 F' ∧ HS (Base.of H []) F' H' [[(b1, .cells [(.int .i64 iv.i.op), (.int .i64 iv.i.a), (.int .i64 iv.i.b), (.int .i64 iv.i.c), (.int .i64 iv.i.n), (.slice aiv_5 iv.args.length kiv_5)] none false)], [(b9, .cells [(.string ⟨⟨(vinfV iv.i.op).name.b⟩⟩), (.int .i64 ((vinfV iv.i.op).form)), (.bool ((vinfV iv.i.op).ra)), (.bool ((vinfV iv.i.op).wa)), (.bool ((vinfV iv.i.op).rb)), (.bool ((vinfV iv.i.op).mt)), (.int .i64 ((vinfV iv.i.op).words))] none false)]] R ∧ SR F' (.slice la28_3 l4.length lk28_3) l4 ∧ agrees f [(1, (.pointer (some ⟨b1, 0, none⟩))), (2, (.slice none 0 0)), (3, (.slice la28_3 l4.length lk28_3)), (5, (.int .i64 (k : Int)))] ∧ mm = iv.args.length - k ∧ (l4 = uniV l3 (iv.args.take k)) ∧ (k ≤ iv.args.length) ∧ (k = 0 ∨ iv.i.op = 6)) _ ⟨l3, 0, la23_3, lk23_3, _, (Fz.le_refl _), hs23, lh23_3, (agC rfl (agC rfl (agC rfl (agC rfl agN)))), rfl, (by rfl), (by first | assumption | omega | (simp at *; omega)), (by first | assumption | omega | (simp at *; omega))⟩ ?_
          rintro mm28 f28 H28 ⟨l4, k, la28_3, lk28_3, F28, hF28, hs28, lh28_3, hf28, rfl, q4, q5, q6⟩ ih28
          refine wk_canon _ hf28 (fun gg28 => ?_)
          clear hf28
          replace hT := hT.mono hF28
          replace hiv_5 := hiv_5.mono hF28
          have n4 := rr_len q1 q2 q3 q4
          refine wk_foc 2 rfl ?_
          refine wr 1 [(2, .o (.slice aiv_5 iv.args.length kiv_5)), (8, .o (.int .i64 iv.i.op))] 38 48 [] [(48, (.bool ((decide ((k : Int) < (iv.args.length : Int))) && (iv.i.op == 6))))] (vA (ql 25 5 (HS.hc hs28 (i := 0) rfl) rfl rfl) (vA (fun (g1 : (decide ((k : Int) < (iv.args.length : Int))) = true) => (ql 3 0 (HS.hc hs28 (i := 0) rfl) rfl rfl)) trivial)) (by kernel_rfl) rfl fun gg29 => ?_
          refine wk_if 3 5 (v := ((decide ((k : Int) < (iv.args.length : Int))) && (iv.i.op == 6))) rfl rfl rfl rfl (fun c30b => ?_) (fun c30b => ?_)
          · have c30 := c30b
            try simp only [BS] at c30
            refine wk_region ?_
            obtain ⟨cf31, hv31⟩ := Sv.view (SR.sv hiv_5 hs28)
            have g32 := fI (hv31 k)
            refine wro 6 0 [(2, .o (.slice aiv_5 iv.args.length kiv_5)), (5, .o (.int .i64 (iv.args.getD k 0)))] 51 56 [] [(51, (.slice la28_3 l4.length lk28_3)), (56, (.int .i64 (iv.args.getD k 0)))] (vA (ql 25 5 (HS.hc hs28 (i := 0) rfl) rfl rfl) (vA (Sv.ix (j := (k : Int)) (SR.sv hiv_5 hs28) (by first | omega | (dsimp only; omega) | (simp <;> omega)) (by first | omega | (dsimp only; omega) | (simp <;> omega))) (vA (ql 3 0 (vI (hv31 k) (by first | omega | (dsimp only; omega) | (simp <;> omega))) rfl rfl) trivial))) (by kernel_rfl) rfl fun gg33 => ?_
            refine wo_call (ap_call rfl rfl rfl) rfl rfl (m6.insert_c ex l4 (iv.args.getD k 0) (HS.call hs28) lh28_3 (by first | omega | (dsimp only; omega) | (simp <;> omega)) hT (by first | omega | (dsimp only; omega) | (simp <;> omega))) ?_
            rintro _ H34 ⟨ar34, kr34, r34, F34, hF34, hs34, rfl, hrr34, rfl⟩
            replace hs34 := HS.back hs28 rfl hs34
            have hs34 : HS _ _ _ [_, _] _ := hs34
            replace hT := hT.mono hF34
            replace hiv_5 := hiv_5.mono hF34
            replace lh28_3 := lh28_3.mono hF34
            refine wa (.slice ar34 (insV l4 (iv.args.getD k 0)).length kr34) rfl rfl rfl ?_
            refine wo_end 2 rfl ?_
            refine wr 1 [] 49 50 [5] [(5, (.int .i64 ((k : Int) + 1)))] (vA (vi (n := (k : Int) + 1) (by first | omega | (dsimp only; omega) | (simp <;> omega))) trivial) (by kernel_rfl) rfl fun gg35 => ?_
            refine ih28 _ _ _ ?_ ⟨insV l4 (iv.args.getD k 0), k + 1, ar34, kr34, _, (Fz.le_trans (hF28) hF34), hs34, hrr34, (agC rfl (agC rfl (agC rfl (agC rfl agN)))), rfl, (by exact uni_step (by omega) q4), (by first | assumption | omega | (simp at *; omega)), (by first | assumption | omega | (simp at *; omega))⟩
            omega
          · have c30 := c30b
            try simp only [BS] at c30
            refine wr 1 [] 2 2 [58] [(2, (.slice la28_3 l4.length lk28_3))] trivial (by kernel_rfl) rfl fun gg36 => ?_
            refine wk_ret ⟨.inr rfl, _, rfl, la28_3, lk28_3, l4, _, (Fz.le_trans (Fz.le_trans (Fz.le_trans (Fz.le_trans (hF8) hF13) hF18) hF23) hF28), (HS.forget hs28), rfl, lh28_3, (by exact rr_end (by assumption) q1 q2 q3 q4 q6 (by omega))⟩

set_option maxHeartbeats 1000000 in
theorem vwrites_c (ex : FuncId) {aiv_5 : Option Addr} {kiv_5 : Nat} (iv : VInT) {F : Fz} {H : Heap} {R : List Fp} (hs : HS (.of H []) F H [] R) (hiv_0 : in64 iv.i.op) (hiv_1 : in64 iv.i.a) (hiv_2 : in64 iv.i.b) (hiv_3 : in64 iv.i.c) (hiv_4 : in64 iv.i.n) (hiv_5 : SR F (.slice aiv_5 iv.args.length kiv_5) iv.args) (hT : TB 37 tabC F) : C Tryd.prog 1 (KT 60 ex 37 tabC) 46 [(.agg ⟨[(.int .i64 iv.i.op), (.int .i64 iv.i.a), (.int .i64 iv.i.b), (.int .i64 iv.i.c), (.int .i64 iv.i.n), (.slice aiv_5 iv.args.length kiv_5)]⟩)] H fun v H' => ∃ (ar : Option Addr) (kr : Nat) (r : List Int) (p : Fp) (F' : Fz), Fz.le F F' ∧ HS (.of H []) F' H' [p] R ∧ v = .slice ar r.length kr ∧ OS F' (.slice ar r.length kr) r p ∧ r = writesV iv := by
  refine c_enter Tryd.func46 rfl rfl ?_
  refine wk_foc 1 rfl ?_
  refine wk_region ?_
  refine wo_rs (rs_box hs rfl rfl) rfl rfl ?_
  rintro _ H2 _ ⟨b1, rfl, hs2, _⟩
  have hs2 : HS _ _ _ [[(b1, .cells [(.int .i64 iv.i.op), (.int .i64 iv.i.a), (.int .i64 iv.i.b), (.int .i64 iv.i.c), (.int .i64 iv.i.n), (.slice aiv_5 iv.args.length kiv_5)] none false)]] _ := hs2
  refine wa (.slice none 0 0) rfl rfl rfl ?_
  refine wo_end 3 rfl ?_
  refine wr 1 [(2, .o (.int .i64 iv.i.op)), (3, .o (.bool (alV iv.i.op)))] 5 9 [] [(9, (.bool (!(alV iv.i.op))))] (vA (ql 3 0 (HS.hc hs2 (i := 0) rfl) rfl rfl) (vA (m1.valw_c_q ex iv.i.op H2) trivial)) (by kernel_rfl) rfl fun gg3 => ?_
  refine wk_if 1 2 (v := (!(alV iv.i.op))) rfl rfl rfl rfl (fun c4b => ?_) (fun c4b => ?_)
  · have c4 := c4b
    try simp only [BS] at c4
    refine wr 1 [] 2 2 [] [(2, (.slice none 0 0))] trivial (by kernel_rfl) rfl fun gg5 => ?_
    refine wk_ret ⟨.inr rfl, _, rfl, none, 0, ([] : List Int), [], _, (Fz.le_refl _), (HS.cons (HS.forget hs2)), rfl, (OS.nil : OS _ _ _ []), (by exact writes_no (by assumption))⟩
  · have c4 := c4b
    try simp only [BS] at c4
    refine wk_region ?_
    refine wro 3 0 [(2, .o (.int .i64 iv.i.op))] 11 13 [] [(13, (.int .i64 iv.i.op))] (vA (ql 3 0 (HS.hc hs2 (i := 0) rfl) rfl rfl) trivial) (by kernel_rfl) rfl fun gg6 => ?_
    refine wo_call (ap_call rfl rfl rfl) rfl rfl (m1.mInfo_c ex iv.i.op (HS.call hs2) (by omega) hT) ?_
    rintro _ H7 ⟨x7, o7, F7, hF7, hs7, rfl, hgx7_1, hgx7_6, rfl, rfl⟩
    replace hs7 := HS.back hs2 rfl hs7
    have hs7 : HS _ _ _ [_] _ := hs7
    replace hT := hT.mono hF7
    replace hiv_5 := hiv_5.mono hF7
    refine wro 3 4 [] 15 16 [10] [(15, (.agg ⟨[(.string ⟨⟨(infV iv.i.op).name.b⟩⟩), (.int .i64 ((infV iv.i.op).form)), (.bool ((infV iv.i.op).ra)), (.bool ((infV iv.i.op).wa)), (.bool ((infV iv.i.op).rb)), (.bool ((infV iv.i.op).mt)), (.int .i64 ((infV iv.i.op).words))]⟩)), (16, (.bool (infO iv.i.op)))] trivial (by kernel_rfl) rfl fun gg8 => ?_
    refine wo_rs (rs_new hs7 rfl) rfl rfl ?_
    rintro _ H10 _ ⟨b9, rfl, hs10, _⟩
    have hs10 : HS _ _ _ [_, [(b9, .cells [(.string ⟨⟨[]⟩⟩), (.int .i64 0), (.bool false), (.bool false), (.bool false), (.bool false), (.int .i64 0)] none false)]] _ := hs10
    refine wo_rk (rs_rec (q := 1) hs10 rfl rfl rfl rfl rfl rfl rfl rfl rfl) rfl ?_
    rintro _ H11 _ ⟨hs11, _⟩
    have hs11 : HS _ _ _ [_, [(b9, .cells [(.string ⟨⟨(infV iv.i.op).name.b⟩⟩), (.int .i64 ((infV iv.i.op).form)), (.bool ((infV iv.i.op).ra)), (.bool ((infV iv.i.op).wa)), (.bool ((infV iv.i.op).rb)), (.bool ((infV iv.i.op).mt)), (.int .i64 ((infV iv.i.op).words))] none false)]] _ := hs11
    refine wa (.bool (infO iv.i.op)) rfl rfl rfl ?_
    refine wo_end 3 rfl ?_
    refine wr 1 [(1, .o (.bool ((infV iv.i.op).wa))), (5, .o (.int .i64 iv.i.op)), (11, .o (.int .i64 iv.i.op))] 17 30 [] [(30, (.bool (((infV iv.i.op).wa || (iv.i.op == 6)) || (iv.i.op == 38))))] (vA (ql 4 3 (HS.hc hs11 (i := 1) rfl) rfl rfl) (vA (fun (g1 : ((infV iv.i.op).wa) = false) => (ql 3 0 (HS.hc hs11 (i := 0) rfl) rfl rfl)) (vA (fun (g1 : ((infV iv.i.op).wa || (iv.i.op == 6)) = false) => (ql 3 0 (HS.hc hs11 (i := 0) rfl) rfl rfl)) trivial))) (by kernel_rfl) rfl fun gg12 => ?_
    refine wk_if 1 2 (v := (((infV iv.i.op).wa || (iv.i.op == 6)) || (iv.i.op == 38))) rfl rfl rfl rfl (fun c13b => ?_) (fun c13b => ?_)
    · have c13 := c13b
      try simp only [BS] at c13
      refine wk_region ?_
      refine wro 3 0 [(2, .o (.int .i64 iv.i.a))] 31 33 [] [(33, (.int .i64 iv.i.a))] (vA (ql 3 1 (HS.hc hs11 (i := 0) rfl) rfl rfl) trivial) (by kernel_rfl) rfl fun gg14 => ?_
      refine wo_rs (rs_lit (α := Int) (ps := [(0, (.int .i64 iv.i.a))]) (cells := [(.int .i64 iv.i.a)]) ([iv.i.a] : List Int) hs11 rfl rfl rfl (by kernel_rfl) ⟨[(.int .i64 iv.i.a)], [], rfl, ⟨rfl, by omega⟩, rfl⟩ rfl) rfl rfl ?_
      rintro _ H16 p15 ⟨a15, k15, rfl, ho15, hs16, _⟩
      have hs16 : HS _ _ _ [_, _, p15] _ := hs16
      refine wa (.slice a15 ([iv.i.a] : List Int).length k15) rfl rfl rfl ?_
      refine wo_end 1 rfl ?_
      refine wk_ret ⟨.inr rfl, _, rfl, a15, k15, ([iv.i.a] : List Int), p15, _, (hF7), (HS.only hs16 (i := 2) rfl), rfl, ho15, (by exact writes_yes (by assumption) (or_assoc.1 (by assumption)))⟩
    · have c13 := c13b
      try simp only [BS] at c13
      refine wr 1 [] 2 2 [] [(2, (.slice none 0 0))] trivial (by kernel_rfl) rfl fun gg17 => ?_
      refine wk_ret ⟨.inr rfl, _, rfl, none, 0, ([] : List Int), [], _, (hF7), (HS.cons (HS.forget hs11)), rfl, (OS.nil : OS _ _ _ []), (by exact writes_not (by simp_all))⟩

set_option maxHeartbeats 1000000 in
theorem rwrites_c (ex : FuncId) {aiv_5 : Option Addr} {kiv_5 : Nat} (iv : VInT) {F : Fz} {H : Heap} {R : List Fp} (hs : HS (.of H []) F H [] R) (hiv_0 : in64 iv.i.op) (hiv_1 : in64 iv.i.a) (hiv_2 : in64 iv.i.b) (hiv_3 : in64 iv.i.c) (hiv_4 : in64 iv.i.n) (hiv_5 : SR F (.slice aiv_5 iv.args.length kiv_5) iv.args) (hT : TB 37 tabC F) : C Tryd.prog 1 (KT 60 ex 37 tabC) 30 [(.agg ⟨[(.int .i64 iv.i.op), (.int .i64 iv.i.a), (.int .i64 iv.i.b), (.int .i64 iv.i.c), (.int .i64 iv.i.n), (.slice aiv_5 iv.args.length kiv_5)]⟩)] H fun v H' => ∃ (ar : Option Addr) (kr : Nat) (r : List Int) (p : Fp) (F' : Fz), Fz.le F F' ∧ HS (.of H []) F' H' [p] R ∧ v = .slice ar r.length kr ∧ OS F' (.slice ar r.length kr) r p ∧ r = writesV iv := by
  refine c_enter Tryd.func30 rfl rfl ?_
  refine wk_foc 1 rfl ?_
  refine wk_region ?_
  refine wo_rs (rs_box hs rfl rfl) rfl rfl ?_
  rintro _ H2 _ ⟨b1, rfl, hs2, _⟩
  have hs2 : HS _ _ _ [[(b1, .cells [(.int .i64 iv.i.op), (.int .i64 iv.i.a), (.int .i64 iv.i.b), (.int .i64 iv.i.c), (.int .i64 iv.i.n), (.slice aiv_5 iv.args.length kiv_5)] none false)]] _ := hs2
  refine wa (.slice none 0 0) rfl rfl rfl ?_
  refine wo_end 3 rfl ?_
  refine wk_rcut 3 19 [] [(19, (.bool (alV iv.i.op && ((vinfV iv.i.op).wa || (iv.i.op == 6)))))] (fun H' => ∃ F', Fz.le F F' ∧ HS (Base.of H []) F' H' [[(b1, .cells [(.int .i64 iv.i.op), (.int .i64 iv.i.a), (.int .i64 iv.i.b), (.int .i64 iv.i.c), (.int .i64 iv.i.n), (.slice aiv_5 iv.args.length kiv_5)] none false)]] R) ?_ ?_
  · skip
    refine wk_region ?_
    refine wo_val (v := (.pointer (some ⟨b1, 0, none⟩))) (ap_fa rfl rfl) rfl rfl ?_
    refine wo_val (v := (.pointer (some ⟨b1, 0, none⟩))) (ap_fa rfl rfl) rfl rfl ?_
    refine wo_val (v := (.int .i64 iv.i.op)) (ap_ld1 (i := 0) rfl rfl (HS.hc hs2 (i := 0) rfl) rfl rfl) rfl rfl ?_
    refine wo_call (ap_call rfl rfl rfl) rfl rfl (m1.ralw_c ex iv.i.op _) ?_
    rintro _ H2 ⟨r6, rfl, rfl, rfl⟩
    refine wm (.bool (alV iv.i.op)) rfl rfl rfl ?_
    refine wo_gsT (v := (alV iv.i.op)) rfl rfl (fun g7 => ?_) (fun g7 => ?_)
    · have pg7 := g7
      try simp only [BS] at pg7
      refine wo_val (v := (.pointer (some ⟨b1, 0, none⟩))) (ap_fa rfl rfl) rfl rfl ?_
      refine wo_gt rfl g7 ?_
      refine wo_val (v := (.pointer (some ⟨b1, 0, none⟩))) (ap_fa rfl rfl) rfl rfl ?_
      refine wo_gt rfl g7 ?_
      refine wo_val (v := (.int .i64 iv.i.op)) (ap_ld1 (i := 0) rfl rfl (HS.hc hs2 (i := 0) rfl) rfl rfl) rfl rfl ?_
      refine wo_gt rfl g7 ?_
      refine wo_call (ap_call rfl rfl rfl) rfl rfl (m3.rinfo_c ex iv.i.op (HS.call hs2) (by omega) hT) ?_
      rintro _ H8 ⟨x8, F8, hF8, hs8, rfl, hgx8_1, hgx8_6, rfl⟩
      replace hs8 := HS.back hs2 rfl hs8
      have hs8 : HS _ _ _ [_] _ := hs8
      replace hT := hT.mono hF8
      replace hiv_5 := hiv_5.mono hF8
      refine wo_gt rfl g7 ?_
      refine wo_val (v := (.bool ((vinfV iv.i.op).wa))) (ap_fv rfl rfl) rfl rfl ?_
      refine wo_gt rfl g7 ?_
      refine wm (.bool ((vinfV iv.i.op).wa)) rfl rfl rfl ?_
      refine wo_gsF (v := ((vinfV iv.i.op).wa)) rfl rfl (fun g9 => ?_) (fun g9 => ?_)
      · have pg9 := g9
        try simp only [BS] at pg9
        refine wo_val (v := (.pointer (some ⟨b1, 0, none⟩))) (ap_fa rfl rfl) rfl rfl ?_
        refine wo_gt rfl g9 ?_
        refine wo_val (v := (.pointer (some ⟨b1, 0, none⟩))) (ap_fa rfl rfl) rfl rfl ?_
        refine wo_gt rfl g9 ?_
        refine wo_val (v := (.int .i64 iv.i.op)) (ap_ld1 (i := 0) rfl rfl (HS.hc hs8 (i := 0) rfl) rfl rfl) rfl rfl ?_
        refine wo_gt rfl g9 ?_
        refine wo_val (v := (.bool (iv.i.op == 6))) (ap_cmp rfl rfl rfl rfl) rfl rfl ?_
        refine wo_gt rfl g7 ?_
        refine wo_val (v := (.bool (iv.i.op == 6))) (ap_pickF rfl g9 rfl) rfl rfl ?_
        refine wo_val (v := (.bool (iv.i.op == 6))) (ap_pickT rfl g7 rfl) rfl rfl ?_
        refine wo_nil ?_
        exact wk_skip_nil ⟨rfl, ⟨_, (Fz.le_trans (Fz.le_refl _) hF8), HS.sub hs8 (List.Sublist.refl _)⟩, (Lu rfl (Lu rfl (Lu rfl (Lu rfl (Lu rfl (Lu rfl (Lu rfl (Lu rfl (Lu rfl (Lu rfl (Lu rfl (Lu rfl (Lu rfl (Lu rfl (Lu rfl (Lu rfl (Lu rfl Lr))))))))))))))))), (agC (congrArg Value.bool (show (iv.i.op == 6) = (alV iv.i.op && ((vinfV iv.i.op).wa || (iv.i.op == 6))) by first | rfl | simp only [↓g7, ↓g9, BT] | grind)) agN)⟩
      · have pg9 := g9
        try simp only [BS] at pg9
        refine wo_gf0 rfl g9 rfl ?_
        refine wo_gf0 rfl g9 rfl ?_
        refine wo_gf0 rfl g9 rfl ?_
        refine wo_gt rfl g7 ?_
        refine wo_val (v := (.bool true)) (ap_pickT rfl g9 rfl) rfl rfl ?_
        refine wo_val (v := (.bool true)) (ap_pickT rfl g7 rfl) rfl rfl ?_
        refine wo_nil ?_
        exact wk_skip_nil ⟨rfl, ⟨_, (Fz.le_trans (Fz.le_refl _) hF8), HS.sub hs8 (List.Sublist.refl _)⟩, (Lu rfl (Lu rfl (Lu rfl (Lu rfl (Lu rfl (Lu rfl (Lu rfl (Lu rfl (Lu rfl (Lu rfl (Lu rfl (Lu rfl (Lu rfl (Lu rfl (Lu rfl (Lu rfl (Lu rfl Lr))))))))))))))))), (agC (congrArg Value.bool (show true = (alV iv.i.op && ((vinfV iv.i.op).wa || (iv.i.op == 6))) by first | rfl | simp only [↓g7, ↓g9, BT] | grind)) agN)⟩
    · have pg7 := g7
      try simp only [BS] at pg7
      refine wo_gf1 rfl g7 rfl ?_
      refine wo_gf1 rfl g7 rfl ?_
      refine wo_gf1 rfl g7 rfl ?_
      refine wo_gf1 rfl g7 rfl ?_
      refine wo_gf1 rfl g7 rfl ?_
      refine wo_gn rfl rfl ?_
      refine wo_gn rfl rfl ?_
      refine wo_gn rfl rfl ?_
      refine wo_gn rfl rfl ?_
      refine wo_gf1 rfl g7 rfl ?_
      refine wo_val (v := (.bool false)) (ap_pickF rfl g7 rfl) rfl rfl ?_
      refine wo_nil ?_
      exact wk_skip_nil ⟨rfl, ⟨_, (Fz.le_refl _), HS.sub hs2 (List.Sublist.refl _)⟩, (Lu rfl (Lu rfl (Lu rfl (Lu rfl (Lu rfl (Lu rfl (Lu rfl (Lu rfl (Lu rfl (Lu rfl (Lu rfl (Lu rfl (Lu rfl (Lu rfl (Lu rfl (Lu rfl (Lu rfl Lr))))))))))))))))), (agC (congrArg Value.bool (show false = (alV iv.i.op && ((vinfV iv.i.op).wa || (iv.i.op == 6))) by first | rfl | simp only [↓g7, BT] | grind)) agN)⟩
  · skip
    rintro g5 H5 ⟨F5, hF5, hs5⟩
    replace hT := hT.mono hF5
    replace hiv_5 := hiv_5.mono hF5
    refine wk_foc 1 rfl ?_
    refine wk_if 1 2 (v := (alV iv.i.op && ((vinfV iv.i.op).wa || (iv.i.op == 6)))) rfl rfl rfl rfl (fun c10b => ?_) (fun c10b => ?_)
    · have c10 := c10b
      try simp only [BS] at c10
      have hq := c10
      refine wk_region ?_
      refine wro 3 0 [(2, .o (.int .i64 iv.i.a))] 20 22 [] [(22, (.int .i64 iv.i.a))] (vA (ql 3 1 (HS.hc hs5 (i := 0) rfl) rfl rfl) trivial) (by kernel_rfl) rfl fun gg11 => ?_
      refine wo_rs (rs_lit (α := Int) (ps := [(0, (.int .i64 iv.i.a))]) (cells := [(.int .i64 iv.i.a)]) ([iv.i.a] : List Int) hs5 rfl rfl rfl (by kernel_rfl) ⟨[(.int .i64 iv.i.a)], [], rfl, ⟨rfl, by omega⟩, rfl⟩ rfl) rfl rfl ?_
      rintro _ H13 p12 ⟨a12, k12, rfl, ho12, hs13, _⟩
      have hs13 : HS _ _ _ [_, p12] _ := hs13
      refine wa (.slice a12 ([iv.i.a] : List Int).length k12) rfl rfl rfl ?_
      refine wo_end 1 rfl ?_
      refine wk_ret ⟨.inr rfl, _, rfl, a12, k12, ([iv.i.a] : List Int), p12, _, (hF5), (HS.only hs13 (i := 1) rfl), rfl, ho12, (by first | exact rwr_yes hq | exact rwr_no hq)⟩
    · have c10 := c10b
      try simp only [BS] at c10
      have hq := c10
      refine wr 1 [] 2 2 [] [(2, (.slice none 0 0))] trivial (by kernel_rfl) rfl fun gg14 => ?_
      refine wk_ret ⟨.inr rfl, _, rfl, none, 0, ([] : List Int), [], _, (hF5), (HS.cons (HS.forget hs5)), rfl, (OS.nil : OS _ _ _ []), (by first | exact rwr_yes hq | exact rwr_no hq)⟩

theorem vsucc_c (ex : FuncId) {ab_0 : Option Addr} {kb_0 : Nat} (b : BlkT) {F : Fz} {H : Heap} {R : List Fp} (hs : HS (.of H []) F H [] R) (hb_0 : SR F (.slice ab_0 b.ins.length kb_0) b.ins) (hb_1 : in64 b.fin) (hb_2 : in64 b.reg) (hb_3 : in64 b.tgt) (hb_4 : in64 b.els) (hT : TB 37 tabC F) : C Tryd.prog 1 (KT 60 ex 37 tabC) 47 [(.agg ⟨[(.slice ab_0 b.ins.length kb_0), (.int .i64 b.fin), (.int .i64 b.reg), (.int .i64 b.tgt), (.int .i64 b.els)]⟩)] H fun v H' => ∃ (ar : Option Addr) (kr : Nat) (r : List Int) (p : Fp) (F' : Fz), Fz.le F F' ∧ HS (.of H []) F' H' [p] R ∧ v = .slice ar r.length kr ∧ OS F' (.slice ar r.length kr) r p ∧ r = succV b := by
  refine c_enter Tryd.func47 rfl rfl ?_
  refine wk_foc 1 rfl ?_
  refine wk_region ?_
  refine wo_rs (rs_box hs rfl rfl) rfl rfl ?_
  rintro _ H2 _ ⟨b1, rfl, hs2, _⟩
  have hs2 : HS _ _ _ [[(b1, .cells [(.slice ab_0 b.ins.length kb_0), (.int .i64 b.fin), (.int .i64 b.reg), (.int .i64 b.tgt), (.int .i64 b.els)] none false)]] _ := hs2
  refine wa (.slice none 0 0) rfl rfl rfl ?_
  refine wo_end 3 rfl ?_
  refine wr 3 [(1, .o (.int .i64 b.fin))] 3 4 [] [(4, (.int .i64 b.fin))] (vA (ql 3 1 (HS.hc hs2 (i := 0) rfl) rfl rfl) trivial) (by kernel_rfl) rfl fun gg3 => ?_
  refine wr 1 [] 5 6 [] [(5, (.bool (b.fin == 1)))] trivial (by kernel_rfl) rfl fun gg4 => ?_
  refine wk_if 1 1 (v := (b.fin == 1)) rfl rfl rfl rfl (fun c5b => ?_) (fun c5b => ?_)
  · have c5 := c5b
    try simp only [BS] at c5
    refine wk_region ?_
    refine wro 2 0 [(1, .o (.int .i64 b.tgt))] 7 8 [] [(8, (.int .i64 b.tgt))] (vA (ql 3 3 (HS.hc hs2 (i := 0) rfl) rfl rfl) trivial) (by kernel_rfl) rfl fun gg6 => ?_
    refine wo_rs (rs_lit (α := Int) (ps := [(0, (.int .i64 b.tgt))]) (cells := [(.int .i64 b.tgt)]) ([b.tgt] : List Int) hs2 rfl rfl rfl (by kernel_rfl) ⟨[(.int .i64 b.tgt)], [], rfl, ⟨rfl, by omega⟩, rfl⟩ rfl) rfl rfl ?_
    rintro _ H8 p7 ⟨a7, k7, rfl, ho7, hs8, _⟩
    have hs8 : HS _ _ _ [_, p7] _ := hs8
    refine wa (.slice a7 ([b.tgt] : List Int).length k7) rfl rfl rfl ?_
    refine wo_end 1 rfl ?_
    refine wk_ret ⟨.inr rfl, _, rfl, a7, k7, ([b.tgt] : List Int), p7, _, (Fz.le_refl _), (HS.only hs8 (i := 1) rfl), rfl, ho7, (by first | exact succ1 (by assumption) | exact (succ2 (by assumption)).symm | exact succ0 (by omega))⟩
  · have c5 := c5b
    try simp only [BS] at c5
    refine wr 1 [] 10 11 [] [(10, (.bool (b.fin == 2)))] trivial (by kernel_rfl) rfl fun gg9 => ?_
    refine wk_if 1 3 (v := (b.fin == 2)) rfl rfl rfl rfl (fun c10b => ?_) (fun c10b => ?_)
    · have c10 := c10b
      try simp only [BS] at c10
      refine wk_region ?_
      refine wro 4 0 [(1, .o (.int .i64 b.tgt)), (3, .o (.int .i64 b.els))] 12 15 [] [(13, (.int .i64 b.tgt)), (15, (.int .i64 b.els))] (vA (ql 3 3 (HS.hc hs2 (i := 0) rfl) rfl rfl) (vA (ql 3 4 (HS.hc hs2 (i := 0) rfl) rfl rfl) trivial)) (by kernel_rfl) rfl fun gg11 => ?_
      refine wo_rs (rs_lit (α := Int) (ps := [(0, (.int .i64 b.tgt)), (1, (.int .i64 b.els))]) (cells := [(.int .i64 b.tgt), (.int .i64 b.els)]) ([b.tgt, b.els] : List Int) hs2 rfl rfl rfl (by kernel_rfl) ⟨[(.int .i64 b.tgt)], [(.int .i64 b.els)], rfl, ⟨rfl, by omega⟩, ⟨[(.int .i64 b.els)], [], rfl, ⟨rfl, by omega⟩, rfl⟩⟩ rfl) rfl rfl ?_
      rintro _ H13 p12 ⟨a12, k12, rfl, ho12, hs13, _⟩
      have hs13 : HS _ _ _ [_, p12] _ := hs13
      obtain ⟨F14, hF14, hs14, hr14, hp14⟩ := OS.frz ho12 hs13 (i := 1) rfl
      have hs14 : HS _ _ _ [_, []] _ := hs14
      replace hT := hT.mono hF14
      replace hb_0 := hb_0.mono hF14
      replace ho12 := ho12.mono hF14
      refine wo_call (ap_call rfl rfl rfl) rfl rfl (unique_c ex ([b.tgt, b.els] : List Int) (HS.call hs14) hr14 hT (by simp)) ?_
      rintro _ H15 ⟨ar15, kr15, r15, p15, F15, hF15, hs15, rfl, hrr15, rfl⟩
      replace hs15 := HS.back hs14 rfl hs15
      have hs15 : HS _ _ _ [_, _, p15] _ := hs15
      replace hT := hT.mono hF15
      replace hb_0 := hb_0.mono hF15
      replace hr14 := hr14.mono hF15
      refine wa (.slice ar15 (uniV [] ([b.tgt, b.els] : List Int)).length kr15) rfl rfl rfl ?_
      refine wo_end 1 rfl ?_
      refine wk_ret ⟨.inr rfl, _, rfl, ar15, kr15, uniV [] ([b.tgt, b.els] : List Int), p15, _, (Fz.le_trans (hF14) hF15), (HS.only hs15 (i := 2) rfl), rfl, hrr15, (by first | exact succ1 (by assumption) | exact (succ2 (by assumption)).symm | exact succ0 (by omega))⟩
    · have c10 := c10b
      try simp only [BS] at c10
      refine wr 1 [] 2 2 [] [(2, (.slice none 0 0))] trivial (by kernel_rfl) rfl fun gg16 => ?_
      refine wk_ret ⟨.inr rfl, _, rfl, none, 0, ([] : List Int), [], _, (Fz.le_refl _), (HS.cons (HS.forget hs2)), rfl, (OS.nil : OS _ _ _ []), (by first | exact succ1 (by assumption) | exact (succ2 (by assumption)).symm | exact succ0 (by omega))⟩

theorem rsucc_c (ex : FuncId) {ab_0 : Option Addr} {kb_0 : Nat} (b : BlkT) {F : Fz} {H : Heap} {R : List Fp} (hs : HS (.of H []) F H [] R) (hb_0 : SR F (.slice ab_0 b.ins.length kb_0) b.ins) (hb_1 : in64 b.fin) (hb_2 : in64 b.reg) (hb_3 : in64 b.tgt) (hb_4 : in64 b.els) (hT : TB 37 tabC F) : C Tryd.prog 1 (KT 60 ex 37 tabC) 27 [(.agg ⟨[(.slice ab_0 b.ins.length kb_0), (.int .i64 b.fin), (.int .i64 b.reg), (.int .i64 b.tgt), (.int .i64 b.els)]⟩)] H fun v H' => ∃ (ar : Option Addr) (kr : Nat) (r : List Int) (F' : Fz), Fz.le F F' ∧ HS (.of H []) F' H' [] R ∧ v = .slice ar r.length kr ∧ SR F' (.slice ar r.length kr) r ∧ r = succV b := by
  refine c_enter Tryd.func27 rfl rfl ?_
  refine wk_foc 1 rfl ?_
  refine wk_region ?_
  refine wo_rs (rs_box hs rfl rfl) rfl rfl ?_
  rintro _ H2 _ ⟨b1, rfl, hs2, _⟩
  have hs2 : HS _ _ _ [[(b1, .cells [(.slice ab_0 b.ins.length kb_0), (.int .i64 b.fin), (.int .i64 b.reg), (.int .i64 b.tgt), (.int .i64 b.els)] none false)]] _ := hs2
  refine wa (.slice none 0 0) rfl rfl rfl ?_
  refine wo_end 3 rfl ?_
  refine wr 3 [(1, .o (.int .i64 b.fin))] 3 4 [] [(4, (.int .i64 b.fin))] (vA (ql 3 1 (HS.hc hs2 (i := 0) rfl) rfl rfl) trivial) (by kernel_rfl) rfl fun gg3 => ?_
  refine wr 1 [] 5 6 [] [(5, (.bool (b.fin == 1)))] trivial (by kernel_rfl) rfl fun gg4 => ?_
  refine wk_if 1 1 (v := (b.fin == 1)) rfl rfl rfl rfl (fun c5b => ?_) (fun c5b => ?_)
  · have c5 := c5b
    try simp only [BS] at c5
    refine wk_region ?_
    refine wro 2 0 [(1, .o (.int .i64 b.tgt))] 7 8 [] [(8, (.int .i64 b.tgt))] (vA (ql 3 3 (HS.hc hs2 (i := 0) rfl) rfl rfl) trivial) (by kernel_rfl) rfl fun gg6 => ?_
    refine wo_rs (rs_lit (α := Int) (ps := [(0, (.int .i64 b.tgt))]) (cells := [(.int .i64 b.tgt)]) ([b.tgt] : List Int) hs2 rfl rfl rfl (by kernel_rfl) ⟨[(.int .i64 b.tgt)], [], rfl, ⟨rfl, by omega⟩, rfl⟩ rfl) rfl rfl ?_
    rintro _ H8 p7 ⟨a7, k7, rfl, ho7, hs8, _⟩
    have hs8 : HS _ _ _ [_, p7] _ := hs8
    refine wa (.slice a7 ([b.tgt] : List Int).length k7) rfl rfl rfl ?_
    refine wo_end 1 rfl ?_
    obtain ⟨F9, hF9, hs9, hr9, hp9⟩ := OS.frz ho7 hs8 (i := 1) rfl
    have hs9 : HS _ _ _ [_, []] _ := hs9
    replace hT := hT.mono hF9
    replace hb_0 := hb_0.mono hF9
    replace ho7 := ho7.mono hF9
    refine wk_ret ⟨.inr rfl, _, rfl, a7, k7, ([b.tgt] : List Int), _, (hF9), (HS.forget hs9), rfl, hr9, (by first | exact succ1 (by assumption) | exact (succ2 (by assumption)).symm | exact succ0 (by omega))⟩
  · have c5 := c5b
    try simp only [BS] at c5
    refine wr 1 [] 10 11 [] [(10, (.bool (b.fin == 2)))] trivial (by kernel_rfl) rfl fun gg10 => ?_
    refine wk_if 1 3 (v := (b.fin == 2)) rfl rfl rfl rfl (fun c11b => ?_) (fun c11b => ?_)
    · have c11 := c11b
      try simp only [BS] at c11
      refine wk_region ?_
      refine wro 2 0 [(1, .o (.int .i64 b.tgt))] 12 13 [] [(13, (.int .i64 b.tgt))] (vA (ql 3 3 (HS.hc hs2 (i := 0) rfl) rfl rfl) trivial) (by kernel_rfl) rfl fun gg12 => ?_
      refine wo_rs (rs_lit (α := Int) (ps := [(0, (.int .i64 b.tgt))]) (cells := [(.int .i64 b.tgt)]) ([b.tgt] : List Int) hs2 rfl rfl rfl (by kernel_rfl) ⟨[(.int .i64 b.tgt)], [], rfl, ⟨rfl, by omega⟩, rfl⟩ rfl) rfl rfl ?_
      rintro _ H14 p13 ⟨a13, k13, rfl, ho13, hs14, _⟩
      have hs14 : HS _ _ _ [_, p13] _ := hs14
      refine wro 2 3 [(4, .o (.int .i64 b.els))] 15 16 [] [(16, (.int .i64 b.els))] (vA (ql 3 4 (HS.hc hs14 (i := 0) rfl) rfl rfl) trivial) (by kernel_rfl) rfl fun gg15 => ?_
      obtain ⟨F16, hF16, hs16, hr16, hp16⟩ := OS.frz ho13 hs14 (i := 1) rfl
      have hs16 : HS _ _ _ [_, []] _ := hs16
      replace hT := hT.mono hF16
      replace hb_0 := hb_0.mono hF16
      replace ho13 := ho13.mono hF16
      refine wo_call (ap_call rfl rfl rfl) rfl rfl (m6.insert_c ex ([b.tgt] : List Int) b.els (HS.call hs16) hr16 (by omega) hT (by simp)) ?_
      rintro _ H17 ⟨ar17, kr17, r17, F17, hF17, hs17, rfl, hrr17, rfl⟩
      replace hs17 := HS.back hs16 rfl hs17
      have hs17 : HS _ _ _ [_, _] _ := hs17
      replace hT := hT.mono hF17
      replace hb_0 := hb_0.mono hF17
      replace hr16 := hr16.mono hF17
      refine wa (.slice ar17 (insV ([b.tgt] : List Int) b.els).length kr17) rfl rfl rfl ?_
      refine wo_end 1 rfl ?_
      refine wk_ret ⟨.inr rfl, _, rfl, ar17, kr17, insV ([b.tgt] : List Int) b.els, _, (Fz.le_trans (hF16) hF17), (HS.forget hs17), rfl, hrr17, (by first | exact succ1 (by assumption) | exact (succ2 (by assumption)).symm | exact succ0 (by omega))⟩
    · have c11 := c11b
      try simp only [BS] at c11
      refine wr 1 [] 2 2 [] [(2, (.slice none 0 0))] trivial (by kernel_rfl) rfl fun gg18 => ?_
      refine wk_ret ⟨.inr rfl, _, rfl, none, 0, ([] : List Int), _, (Fz.le_refl _), (HS.forget hs2), rfl, (SR.nil : SR F (.slice none 0 0) ([] : List Int)), (by first | exact succ1 (by assumption) | exact (succ2 (by assumption)).symm | exact succ0 (by omega))⟩

end Go.Proofs.YtlabedbmgmfbaaaDoor.ma
