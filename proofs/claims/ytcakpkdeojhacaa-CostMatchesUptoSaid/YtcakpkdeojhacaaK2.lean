/-
  Plain laws: what the functions compute answers as the statement says. No condition beyond those that each statement names.
-/
import Derived.Test.YtcakpkdeojhacaaK1
noncomputable section
namespace Go.Proofs.Ytcakpkdeojhacaa.k2
open Go.R k1
set_option linter.unusedVariables false
abbrev Nds := List NodeT
inductive Rch (l : Nds) (roots : List Int) : Nat → Prop
  | root {i : Nat} : (i : Int) ∈ roots → i < l.length → Rch l roots i
  | kid {j i : Nat} : Rch l roots j → (i : Int) ∈ (l.getD j default).kids → i < l.length → Rch l roots i
theorem Rch.lt {l : Nds} {roots : List Int} {i : Nat} (h : Rch l roots i) : i < l.length := by cases h <;> assumption
def sumTo (l : Nds) (m : Nat → Bool) : Nat → Int
  | 0 => 0
  | n + 1 => sumTo l m n + (bif m n then nodeV (l.getD n default).op else 0)
open Classical in
noncomputable def totV (l : Nds) (roots : List Int) : Int := sumTo l (fun i => decide (Rch l roots i)) l.length
theorem sum_congr {l : Nds} {m m' : Nat → Bool} : ∀ {n : Nat}, (∀ i, i < n → m i = m' i) → sumTo l m n = sumTo l m' n
  | 0, _ => rfl
  | n + 1, h => by rw [sumTo, sumTo, sum_congr fun i hi => h i (by omega), h n (by omega)]
theorem sum_rng {l : Nds} {m : Nat → Bool} : ∀ (n : Nat), 0 ≤ sumTo l m n ∧ sumTo l m n ≤ 20 * n
  | 0 => by simp [sumTo]
  | n + 1 => by
    have h1 := sum_rng (l := l) (m := m) n
    have h2 := nodeV_rng (l.getD n default).op
    rw [sumTo]
    cases m n
    · rw [cond_false]; omega
    · rw [cond_true]; omega
abbrev mkd (ms : List Bool) (i : Nat) : Bool := ms.getD i false
theorem mk_set {ms : List Bool} {i j : Nat} (h : i < ms.length) : mkd (ms.set i true) j = if j = i then true else mkd ms j := by
  unfold mkd
  rw [List.getD_eq_getElem?_getD, List.getD_eq_getElem?_getD, List.getElem?_set]
  by_cases e : i = j
  · subst e; simp [h]
  · simp [e, Ne.symm e]
theorem sum_set {l : Nds} {ms : List Bool} {i : Nat} (h : i < ms.length) (hm : mkd ms i = false) : ∀ (n : Nat), sumTo l (mkd (ms.set i true)) n = sumTo l (mkd ms) n + (if i < n then nodeV (l.getD i default).op else 0)
  | 0 => by simp [sumTo]
  | n + 1 => by
    rw [sumTo, sumTo, sum_set h hm n, mk_set h]
    by_cases e : n = i
    · subst e; rw [if_pos rfl, hm, if_neg (Nat.lt_irrefl _), if_pos (Nat.lt_succ_self _)]; simp
    · rw [if_neg e]
      by_cases e2 : i < n
      · rw [if_pos e2, if_pos (by omega)]; omega
      · rw [if_neg e2, if_neg (by omega)]; omega
/-- What is still to be looked at. -/
def wt (l : Nds) (m : Nat → Bool) : Nat → Nat
  | 0 => 0
  | n + 1 => wt l m n + (bif m n then 0 else 1 + (l.getD n default).kids.length)
theorem wt_set {l : Nds} {ms : List Bool} {i : Nat} (h : i < ms.length) (hm : mkd ms i = false) : ∀ (n : Nat), wt l (mkd (ms.set i true)) n + (if i < n then 1 + (l.getD i default).kids.length else 0) = wt l (mkd ms) n
  | 0 => by simp [wt]
  | n + 1 => by
    have ih := wt_set (l := l) h hm n
    rw [wt, wt, mk_set h]
    by_cases e : n = i
    · subst e; rw [if_neg (Nat.lt_irrefl _)] at ih; rw [if_pos rfl, hm, if_pos (Nat.lt_succ_self _)]; simp; omega
    · rw [if_neg e]
      by_cases e2 : i < n
      · rw [if_pos e2] at ih; rw [if_pos (by omega)]; omega
      · rw [if_neg e2] at ih; rw [if_neg (by omega)]; omega
structure JT (l : Nds) (roots : List Int) (ms : List Bool) (st : List Int) : Prop where
  len : ms.length = l.length
  snd : ∀ i, mkd ms i = true → Rch l roots i
  sst : ∀ x ∈ st, ∀ i : Nat, (i : Int) = x → i < l.length → Rch l roots i
  rts : ∀ i : Nat, (i : Int) ∈ roots → i < l.length → mkd ms i = true ∨ (i : Int) ∈ st
  cls : ∀ j i : Nat, mkd ms j = true → (i : Int) ∈ (l.getD j default).kids → i < l.length → mkd ms i = true ∨ (i : Int) ∈ st
theorem mk_rep {n i : Nat} : mkd (List.replicate n false) i = false := by
  unfold mkd
  rw [List.getD_eq_getElem?_getD, List.getElem?_replicate]; split <;> rfl
theorem JT.init {l : Nds} {roots : List Int} : JT l roots (List.replicate l.length false) ([] ++ roots) :=
  ⟨by simp, fun i h => (by rw [mk_rep] at h; cases h), fun x hx i e hi => (by subst e; exact .root (by simpa using hx) hi), fun i h _ => .inr (by simpa using h), fun j i h => (by rw [mk_rep] at h; cases h)⟩
theorem last_split {st : List Int} (h : 0 < st.length) : st = st.take (st.length - 1) ++ [st.getD (st.length - 1) 0] := by
  have e : st.drop (st.length - 1) = [st.getD (st.length - 1) 0] := by
    rw [List.drop_eq_getElem_cons (by omega), List.drop_of_length_le (by omega), List.getD_eq_getElem?_getD, List.getElem?_eq_getElem (by omega)]; rfl
  conv => lhs; rw [← List.take_append_drop (st.length - 1) st, e]
theorem JT.skip {l : Nds} {roots : List Int} {ms : List Bool} {st : List Int} (h : JT l roots ms st) (h0 : 0 < st.length) (hx : st.getD (st.length - 1) 0 < 0 ∨ (l.length : Int) ≤ st.getD (st.length - 1) 0 ∨ mkd ms (st.getD (st.length - 1) 0).toNat = true) : JT l roots ms (st.take (st.length - 1)) := by
  have hs := last_split h0
  generalize hq : st.getD (st.length - 1) 0 = x at *
  have key : ∀ i : Nat, i < l.length → (i : Int) ∈ st → mkd ms i = true ∨ (i : Int) ∈ st.take (st.length - 1) := by
    intro i hi hm
    rw [hs] at hm
    rcases List.mem_append.1 hm with hm | hm
    · exact .inr hm
    · rw [List.mem_singleton] at hm
      left
      rcases hx with h1 | h1 | h1
      · omega
      · omega
      · rw [← hm] at h1; simpa using h1
  refine ⟨h.len, h.snd, fun y hy => h.sst y (by rw [hs]; exact List.mem_append_left _ hy), fun i hi hl => ?_, fun j i hj hi hl => ?_⟩
  · rcases h.rts i hi hl with h1 | h1
    · exact .inl h1
    · exact key i hl h1
  · rcases h.cls j i hj hi hl with h1 | h1
    · exact .inl h1
    · exact key i hl h1
theorem JT.mark {l : Nds} {roots : List Int} {ms : List Bool} {st : List Int} {k : Nat} (h : JT l roots ms st) (h0 : 0 < st.length) (hk : st.getD (st.length - 1) 0 = (k : Int)) (hl : k < l.length) : JT l roots (ms.set k true) (st.take (st.length - 1) ++ (l.getD k default).kids) := by
  have hs := last_split h0
  rw [hk] at hs
  have hlen : k < ms.length := by rw [h.len]; exact hl
  have hkm : (k : Int) ∈ st := by rw [hs]; simp
  have hrk : Rch l roots k := h.sst _ hkm k rfl hl
  have key : ∀ i : Nat, (i : Int) ∈ st → mkd (ms.set k true) i = true ∨ (i : Int) ∈ st.take (st.length - 1) ++ (l.getD k default).kids := by
    intro i hm
    rw [hs] at hm
    rcases List.mem_append.1 hm with hm | hm
    · exact .inr (List.mem_append_left _ hm)
    · rw [List.mem_singleton] at hm
      left; rw [mk_set hlen, if_pos (by omega)]
  refine ⟨by rw [List.length_set]; exact h.len, fun i hi => ?_, fun y hy i e hil => ?_, fun i hi hil => ?_, fun j i hj hi hil => ?_⟩
  · rw [mk_set hlen] at hi
    by_cases e : i = k
    · rw [e]; exact hrk
    · rw [if_neg e] at hi; exact h.snd i hi
  · rcases List.mem_append.1 hy with hy | hy
    · exact h.sst y (by rw [hs]; exact List.mem_append_left _ hy) i e hil
    · subst e; exact .kid hrk hy hil
  · rcases h.rts i hi hil with h1 | h1
    · left; rw [mk_set hlen]; split
      · rfl
      · exact h1
    · exact key i h1
  · rw [mk_set hlen] at hj
    by_cases e : j = k
    · subst e; exact .inr (List.mem_append_right _ hi)
    · rw [if_neg e] at hj
      rcases h.cls j i hj hi hil with h1 | h1
      · left; rw [mk_set hlen]; split
        · rfl
        · exact h1
      · exact key i h1
theorem mk_tot {l : Nds} {roots : List Int} {ms : List Bool} (h1 : ∀ i, mkd ms i = true → Rch l roots i) (h2 : ∀ i, Rch l roots i → mkd ms i = true) : sumTo l (mkd ms) l.length = totV l roots := by
  unfold totV
  refine sum_congr fun i _ => ?_
  by_cases h : Rch l roots i
  · rw [h2 i h]; simp [h]
  · have : mkd ms i = false := by
      cases hb : mkd ms i with
      | false => rfl
      | true => exact absurd (h1 i hb) h
    rw [this]; simp [h]
theorem JT.fin {l : Nds} {roots : List Int} {ms : List Bool} {st : List Int} (h : JT l roots ms st) (h0 : ¬ 0 < st.length) : sumTo l (mkd ms) l.length = totV l roots := by
  have e : st = [] := List.eq_nil_of_length_eq_zero (by omega)
  subst e
  refine mk_tot h.snd fun i hi => ?_
  induction hi with
  | root hr hl => rcases h.rts _ hr hl with h1 | h1; exact h1; simp at h1
  | kid _ hk hl ih => rcases h.cls _ _ ih hk hl with h1 | h1; exact h1; simp at h1
theorem wt_rep {l : Nds} : ∀ (n : Nat), wt l (mkd (List.replicate l.length false)) n = wt l (fun _ => false) n
  | 0 => rfl
  | n + 1 => by rw [wt, wt, wt_rep n, mk_rep]

/-! The reference: marking until nothing is new. -/
def clsd (l : Nds) (ms : List Bool) (j : Nat) : Prop := mkd ms j = true → ∀ i : Nat, (i : Int) ∈ (l.getD j default).kids → i < l.length → mkd ms i = true
def unm (ms : List Bool) : Nat := ms.countP (fun b => !b)
theorem unm_set {ms : List Bool} {i : Nat} (h : i < ms.length) (hm : mkd ms i = false) : unm (ms.set i true) + 1 = unm ms := by
  unfold unm mkd at *
  induction ms generalizing i with
  | nil => simp at h
  | cons b ms ih =>
    cases i with
    | zero => simp at hm; subst hm; simp
    | succ i =>
      have := ih (i := i) (by simpa using h) (by simpa using hm)
      simp only [List.set_cons_succ, List.countP_cons]; omega
/-- What a pass keeps. -/
structure MK (l : Nds) (roots : List Int) (ms : List Bool) : Prop where
  len : ms.length = l.length
  snd : ∀ i, mkd ms i = true → Rch l roots i
  rts : ∀ i : Nat, (i : Int) ∈ roots → i < l.length → mkd ms i = true
theorem MK.set {l : Nds} {roots : List Int} {ms : List Bool} {i q : Nat} (h : MK l roots ms) (hi : mkd ms i = true) (hq : (q : Int) ∈ (l.getD i default).kids) (hl : q < l.length) : MK l roots (ms.set q true) :=
  ⟨by rw [List.length_set]; exact h.len, fun j hj => by
    rw [mk_set (by rw [h.len]; exact hl)] at hj
    by_cases e : j = q
    · subst e; exact .kid (h.snd i hi) hq hl
    · rw [if_neg e] at hj; exact h.snd j hj, fun j hj hjl => by
    rw [mk_set (by rw [h.len]; exact hl)]; split
    · rfl
    · exact h.rts j hj hjl⟩
theorem MK.fin {l : Nds} {roots : List Int} {ms : List Bool} (h : MK l roots ms) (hc : ∀ j, j < l.length → clsd l ms j) : sumTo l (mkd ms) l.length = totV l roots := by
  refine mk_tot h.snd fun i hi => ?_
  induction hi with
  | root hr hl => exact h.rts _ hr hl
  | kid hj hk hl ih => exact hc _ hj.lt ih _ hk hl
structure M0 (l : Nds) (roots : List Int) (ms : List Bool) (n : Nat) : Prop where
  len : ms.length = l.length
  snd : ∀ i, mkd ms i = true → Rch l roots i
  rts : ∀ k, k < n → ∀ i : Nat, (i : Int) = roots.getD k 0 → i < l.length → mkd ms i = true
theorem M0.init {l : Nds} {roots : List Int} : M0 l roots (List.replicate l.length false) 0 := ⟨by simp, fun i h => (by rw [mk_rep] at h; cases h), fun k h => (by omega)⟩
theorem getD_mem {α : Type} {l : List α} {k : Nat} {d : α} (h : k < l.length) : l.getD k d ∈ l := by
  rw [List.getD_eq_getElem?_getD, List.getElem?_eq_getElem h]; exact List.getElem_mem h
theorem M0.step {l : Nds} {roots : List Int} {ms : List Bool} {n : Nat} (h : M0 l roots ms n) (hn : n < roots.length) (h1 : 0 ≤ roots.getD n 0) (h2 : roots.getD n 0 < l.length) : M0 l roots (ms.set (roots.getD n 0).toNat true) (n + 1) := by
  have hl : (roots.getD n 0).toNat < l.length := by omega
  have hl2 : (roots.getD n 0).toNat < ms.length := by rw [h.len]; exact hl
  refine ⟨by rw [List.length_set]; exact h.len, fun i hi => ?_, fun k hk i e hil => ?_⟩
  · rw [mk_set hl2] at hi
    by_cases e : i = (roots.getD n 0).toNat
    · subst e; exact .root (by rw [Int.toNat_of_nonneg h1]; exact getD_mem hn) hl
    · rw [if_neg e] at hi; exact h.snd i hi
  · rw [mk_set hl2]
    rcases Nat.lt_succ_iff_lt_or_eq.1 hk with h3 | rfl
    · split
      · rfl
      · exact h.rts k h3 i e hil
    · rw [if_pos (by omega)]
theorem M0.pass {l : Nds} {roots : List Int} {ms : List Bool} {n : Nat} (h : M0 l roots ms n) (hx : ¬ (0 ≤ roots.getD n 0 ∧ roots.getD n 0 < l.length)) : M0 l roots ms (n + 1) :=
  ⟨h.len, h.snd, fun k hk i e hil => by
    rcases Nat.lt_succ_iff_lt_or_eq.1 hk with h3 | rfl
    · exact h.rts k h3 i e hil
    · omega⟩
theorem M0.fin {l : Nds} {roots : List Int} {ms : List Bool} {n : Nat} (h : M0 l roots ms n) (hn : ¬ n < roots.length) : MK l roots ms :=
  ⟨h.len, h.snd, fun i hi hl => by
    obtain ⟨k, hk, e⟩ := List.getElem_of_mem hi
    exact h.rts k (by omega) i (by rw [List.getD_eq_getElem?_getD, List.getElem?_eq_getElem hk]; exact e.symm) hl⟩
/-- One pass over the nodes below i and over the first k operands of node i. -/
structure MP (l : Nds) (m0 : List Bool) (u : Nat) (ms : List Bool) (more : Bool) (i k : Nat) : Prop where
  len : ms.length = l.length
  base : ∀ roots, MK l roots m0 → MK l roots ms
  lt : more = true → unm ms < u
  le : unm ms ≤ u
  cl : more = false → ∀ j, j < i → clsd l ms j
  kd : more = false → ∀ q, q < k → ∀ a : Nat, (a : Int) = (l.getD i default).kids.getD q 0 → a < l.length → mkd ms a = true
theorem MP.init {l : Nds} {m0 ms : List Bool} (h0 : ms.length = l.length) (h : ∀ roots, MK l roots m0 → MK l roots ms) : MP l m0 (unm ms) ms false 0 0 := ⟨h0, h, fun h => (by cases h), Nat.le_refl _, fun _ j hj => (by omega), fun _ q hq => (by omega)⟩
theorem MP.node {l : Nds} {m0 : List Bool} {u : Nat} {ms : List Bool} {more : Bool} {i k : Nat} (h : MP l m0 u ms more i k) (hx : k < (l.getD i default).kids.length → mkd ms i = false) : MP l m0 u ms more (i + 1) 0 :=
  ⟨h.len, h.base, h.lt, h.le, fun hm j hj => by
    rcases Nat.lt_succ_iff_lt_or_eq.1 hj with h1 | rfl
    · exact h.cl hm j h1
    · intro hmj a ha hal
      rcases Nat.lt_or_ge k (l.getD j default).kids.length with hk | hk
      · rw [hx hk] at hmj; cases hmj
      · obtain ⟨q, hq, e⟩ := List.getElem_of_mem ha
        exact h.kd hm q (by omega) a (by rw [List.getD_eq_getElem?_getD, List.getElem?_eq_getElem hq]; exact e.symm) hal, fun _ q hq => (by omega)⟩
theorem MP.go {l : Nds} {m0 : List Bool} {u : Nat} {ms : List Bool} {more : Bool} {i k : Nat} (h : MP l m0 u ms more i k) (hx : 0 ≤ (l.getD i default).kids.getD k 0 → (l.getD i default).kids.getD k 0 < l.length → mkd ms ((l.getD i default).kids.getD k 0).toNat = true) : MP l m0 u ms more i (k + 1) :=
  ⟨h.len, h.base, h.lt, h.le, h.cl, fun hm q hq a e hal => by
    rcases Nat.lt_succ_iff_lt_or_eq.1 hq with h1 | rfl
    · exact h.kd hm q h1 a e hal
    · have := hx (by omega) (by omega)
      rw [← e] at this; simpa using this⟩
theorem MP.new {l : Nds} {m0 : List Bool} {u : Nat} {ms : List Bool} {more : Bool} {i k : Nat} (h : MP l m0 u ms more i k) (hk : k < (l.getD i default).kids.length) (hi : mkd ms i = true) (h1 : 0 ≤ (l.getD i default).kids.getD k 0) (h2 : (l.getD i default).kids.getD k 0 < l.length)
    (hn : mkd ms ((l.getD i default).kids.getD k 0).toNat = false) : MP l m0 u (ms.set ((l.getD i default).kids.getD k 0).toNat true) true i (k + 1) := by
  have hl : ((l.getD i default).kids.getD k 0).toNat < l.length := by omega
  have hu := unm_set (by rw [h.len]; exact hl) hn
  have hle := h.le
  exact ⟨by rw [List.length_set]; exact h.len, fun r hr => (h.base r hr).set hi (by rw [Int.toNat_of_nonneg h1]; exact getD_mem hk) hl, fun _ => by omega, by omega, fun h => (by cases h), fun h => (by cases h)⟩
theorem sumN {l : Nds} {m : Nat → Bool} {i : Nat} {sm : Int} (h : sm = sumTo l m i) (hm : m i = true) : sm + nodeV (l.getD i default).op = sumTo l m (i + 1) := by rw [sumTo, hm, h]; rfl
theorem sumS {l : Nds} {m : Nat → Bool} {i : Nat} {sm : Int} (h : sm = sumTo l m i) (hm : m i = false) : sm = sumTo l m (i + 1) := by rw [sumTo, hm, h]; simp
end Go.Proofs.Ytcakpkdeojhacaa.k2
