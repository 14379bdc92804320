/-
  A region that draws its order: whatever order the tape gives, the evaluator's order tells the end.
  No condition beyond those that each statement names.
-/
import Derived.Test.YtcakpkdeojhacaaRxStep
namespace Go.R

/-! Ancestors. -/
def foldm (l : List Nat) (o : Oper) : Nat := o.after.toList.foldl (fun s e => bif Region.binds .any e then s ||| 2 ^ e.on ||| l.getD e.on 0 else s) 0

theorem ancs_prefix : ∀ (os : List Oper) (acc : List Nat), ∃ t, ancs os acc = acc ++ t ∧ t.length = os.length
  | [], acc => ⟨[], by simp [ancs], rfl⟩
  | o :: os, acc => by
    obtain ⟨t, h, hl⟩ := ancs_prefix os (acc ++ [foldm acc o])
    refine ⟨foldm acc o :: t, ?_, by simp [hl]⟩
    show ancs os (acc ++ [foldm acc o]) = _
    rw [h]; simp

theorem ancs_at : ∀ (os : List Oper) (acc : List Nat) (k : Nat) (o : Oper), os[k]? = some o →
    (ancs os acc).getD (acc.length + k) 0 = foldm ((ancs os acc).take (acc.length + k)) o
  | [], acc, k, o, h => by simp at h
  | x :: os, acc, 0, o, h => by
    simp at h; subst h
    obtain ⟨t, h, _⟩ := ancs_prefix os (acc ++ [foldm acc x])
    have e : ancs (x :: os) acc = acc ++ ([foldm acc x] ++ t) := by
      show ancs os (acc ++ [foldm acc x]) = _
      rw [h]; simp
    rw [e]
    simp
  | x :: os, acc, k + 1, o, h => by
    have ih := ancs_at os (acc ++ [foldm acc x]) k o (by simpa using h)
    have e : ancs (x :: os) acc = ancs os (acc ++ [foldm acc x]) := rfl
    rw [e]
    simp only [List.length_append, List.length_singleton] at ih
    rw [show acc.length + (k + 1) = acc.length + 1 + k by omega]
    exact ih

theorem fold_bit (l : List Nat) (j : Nat) : ∀ (es : List Edge) (s : Nat), (es.foldl (fun s e => bif Region.binds .any e then s ||| 2 ^ e.on ||| l.getD e.on 0 else s) s).testBit j = true →
    s.testBit j = true ∨ ∃ e ∈ es, Region.binds .any e = true ∧ (e.on = j ∨ (l.getD e.on 0).testBit j = true)
  | [], s, h => .inl h
  | e :: es, s, h => by
    simp only [List.foldl_cons] at h
    rcases fold_bit l j es _ h with h1 | ⟨e', he, h2⟩
    · cases hb : Region.binds .any e with
      | false => rw [hb] at h1; exact .inl h1
      | true =>
        rw [hb] at h1
        simp only [cond_true, Nat.testBit_or, Bool.or_eq_true] at h1
        rcases h1 with (h1 | h1) | h1
        · exact .inl h1
        · rw [Nat.testBit_two_pow] at h1
          exact .inr ⟨e, by simp, hb, .inl (by simpa using h1)⟩
        · exact .inr ⟨e, by simp, hb, .inr h1⟩
    · exact .inr ⟨e', by simp [he], h2⟩

theorem ordered_edge {ops : Array Oper} {j k : Nat} (h : ordered (ancOf ops) j k = true) :
    ∃ o, ops[k]? = some o ∧ ∃ e ∈ o.after.toList, Region.binds .any e = true ∧ (e.on = j ∨ (e.on < k ∧ ordered (ancOf ops) j e.on = true)) := by
  unfold ordered at h
  have hk : k < ops.toList.length := by
    obtain ⟨t, ht, hl⟩ := ancs_prefix ops.toList []
    rcases Nat.lt_or_ge k ops.toList.length with hlt | hge
    · exact hlt
    · have : (ancOf ops).getD k 0 = 0 := by
        unfold ancOf
        rw [ht, List.nil_append, List.getD_eq_getElem?_getD, List.getElem?_eq_none (by omega)]; rfl
      rw [this] at h; simp at h
  have ho : ops.toList[k]? = some ops.toList[k] := List.getElem?_eq_getElem hk
  have ha := ancs_at ops.toList [] k _ ho
  simp only [List.length_nil, Nat.zero_add] at ha
  change (ancOf ops).getD k 0 = foldm ((ancOf ops).take k) _ at ha
  rw [ha] at h
  rcases fold_bit _ j _ 0 h with h1 | ⟨e, he, hb, h2⟩
  · simp at h1
  · refine ⟨ops.toList[k], by rw [← Array.getElem?_toList]; exact ho, e, he, hb, ?_⟩
    rcases h2 with h2 | h2
    · exact .inl h2
    · right
      rcases Nat.lt_or_ge e.on k with hlt | hge
      · refine ⟨hlt, ?_⟩
        unfold ordered
        rw [List.getD_eq_getElem?_getD, List.getElem?_take, if_pos hlt, ← List.getD_eq_getElem?_getD] at h2
        exact h2
      · rw [List.getD_eq_getElem?_getD, List.getElem?_take, if_neg (by omega)] at h2
        simp at h2

/-- A set of operations that holds all that must have gone before. -/
def DC (ops : Array Oper) (S : Nat → Bool) : Prop := ∀ (k : Nat) o, ops[k]? = some o → S k = true → ∀ e ∈ o.after.toList, Region.binds .any e = true → S e.on = true

theorem DC.anc {ops : Array Oper} {S : Nat → Bool} (h : DC ops S) {j : Nat} : ∀ (k : Nat), S k = true → ordered (ancOf ops) j k = true → S j = true := by
  intro k
  induction k using Nat.strongRecOn with
  | _ k ih =>
    intro hk ho
    obtain ⟨o, ho1, e, he, hb, h1⟩ := ordered_edge ho
    have hs := h k o ho1 hk e he hb
    rcases h1 with rfl | ⟨hlt, h2⟩
    · exact hs
    · exact ih e.on hlt hs h2

/-- What the region's own look found. -/
structure RegFacts (ops : Array Oper) : Prop where
  back : ∀ (j : Nat) o, ops[j]? = some o → ∀ e ∈ o.after.toList, Region.binds .any e = true → e.on < j
  pair : ∀ (i j : Nat) x o, i < j → ops[i]? = some x → ops[j]? = some o → ordered (ancOf ops) i j = true ∨ x.apart ops o = true

theorem regOK_facts {ops : Array Oper} (h : regOK ops = true) : RegFacts ops := by
  unfold regOK at h
  simp only [List.all_eq_true, List.mem_range] at h
  refine ⟨fun j o ho e he hb => ?_, fun i j x o hij hx ho => ?_⟩
  · have hj : j < ops.size := (Array.getElem?_eq_some_iff.1 ho).1
    have := h j hj
    rw [ho] at this
    simp only [Bool.and_eq_true, List.all_eq_true] at this
    have h1 := this.1.1 e he
    rw [hb] at h1
    simp only [Bool.not_true, Bool.false_or] at h1
    exact Nat.le_of_ble_eq_true h1
  · have hj : j < ops.size := (Array.getElem?_eq_some_iff.1 ho).1
    have := h j hj
    rw [ho] at this
    simp only [Bool.and_eq_true, List.all_eq_true, List.mem_range] at this
    have h1 := this.2 i hij
    rw [hx] at h1
    simpa using h1

/-! The states that the text's order comes through. -/
section
variable (st : Nat → St) (vl : Nat → Value) (ops : Array Oper)

def chg (k b : Nat) : Prop := (st (k + 1)).heap.get b ≠ (st k).heap.get b
open Classical in
/-- What a block holds when just the operations of S have gone. -/
noncomputable def cont (S : Nat → Bool) : Nat → Nat → Option AObj
  | 0, b => (st 0).heap.get b
  | k + 1, b => if S k = true ∧ chg st k b then (st (k + 1)).heap.get b else cont S k b
def dstOf (k : Nat) : Option Tmp := (ops[k]?).bind (·.dst)
open Classical in
/-- What a slot holds when just the operations of S have gone. -/
noncomputable def tv (S : Nat → Bool) : Nat → Nat → Value
  | 0, t => lget (st 0).tmps t
  | k + 1, t => if S k = true ∧ dstOf ops k = some t then vl k else tv S k t

theorem cont_eq {S : Nat → Bool} {b i : Nat} : ∀ m, (∀ k, k < m → chg st k b → (S k = true ↔ k < i)) → cont st S m b = (st (min m i)).heap.get b
  | 0, _ => by simp [cont]
  | m + 1, h => by
    have ih := cont_eq m fun k hk => h k (by omega)
    unfold cont
    by_cases hm : m < i
    · rw [show min (m + 1) i = m + 1 by omega]
      rw [show min m i = m by omega] at ih
      by_cases hc : chg st m b
      · rw [if_pos ⟨(h m (by omega) hc).2 hm, hc⟩]
      · rw [if_neg (fun e => hc e.2), ih]
        unfold chg at hc
        exact (Classical.not_not.1 hc).symm
    · rw [show min (m + 1) i = i by omega]
      rw [show min m i = i by omega] at ih
      rw [if_neg (fun e => hm ((h m (by omega) e.2).1 e.1)), ih]
theorem cont_congr {S S' : Nat → Bool} {b : Nat} : ∀ m, (∀ k, k < m → chg st k b → S k = S' k) → cont st S m b = cont st S' m b
  | 0, _ => rfl
  | m + 1, h => by
    have ih := cont_congr m fun k hk => h k (by omega)
    unfold cont
    by_cases hc : chg st m b
    · rw [h m (by omega) hc, ih]
    · rw [if_neg (fun e => hc e.2), if_neg (fun e => hc e.2), ih]
theorem tv_eq {S : Nat → Bool} {t i : Nat} (ht : ∀ k, lget (st (k + 1)).tmps t = if dstOf ops k = some t then vl k else lget (st k).tmps t) :
    ∀ m, (∀ k, k < m → dstOf ops k = some t → (S k = true ↔ k < i)) → tv st vl ops S m t = lget (st (min m i)).tmps t
  | 0, _ => by simp [tv]
  | m + 1, h => by
    have ih := tv_eq ht m fun k hk => h k (by omega)
    unfold tv
    by_cases hm : m < i
    · rw [show min (m + 1) i = m + 1 by omega]
      rw [show min m i = m by omega] at ih
      by_cases hc : dstOf ops m = some t
      · rw [if_pos ⟨(h m (by omega) hc).2 hm, hc⟩, ht, if_pos hc]
      · rw [if_neg (fun e => hc e.2), ih, ht, if_neg hc]
    · rw [show min (m + 1) i = i by omega]
      rw [show min m i = i by omega] at ih
      rw [if_neg (fun e => hm ((h m (by omega) e.2).1 e.1)), ih]
theorem tv_congr {S S' : Nat → Bool} {t : Nat} : ∀ m, (∀ k, k < m → dstOf ops k = some t → S k = S' k) → tv st vl ops S m t = tv st vl ops S' m t
  | 0, _ => rfl
  | m + 1, h => by
    have ih := tv_congr m fun k hk => h k (by omega)
    unfold tv
    by_cases hc : dstOf ops m = some t
    · rw [h m (by omega) hc, ih]
    · rw [if_neg (fun e => hc e.2), if_neg (fun e => hc e.2), ih]
end

/-- What holds when just the operations of S have gone. -/
structure Inv (ops : Array Oper) (st : Nat → St) (vl : Nat → Value) (μ0 : Emb) (w0 : World) (d0 : List Deferred) (S : Nat → Bool) (μ : Emb) (a : Act) (w : World) : Prop where
  dc : DC ops S
  dom : ∀ b l, μ b = some l → b < (st 0).heap.next ∨ (∃ k, k < ops.size ∧ S k = true ∧ (st k).heap.next ≤ b ∧ b < (st (k + 1)).heap.next) ∨ (st ops.size).heap.next ≤ b
  obj : ∀ b l o, μ b = some l → cont st S ops.size b = some o → ObjRel μ w l o
  inj : ∀ b1 b2 l1 l2 o1 o2, b1 ≠ b2 → μ b1 = some l1 → μ b2 = some l2 → cont st S ops.size b1 = some o1 → cont st S ops.size b2 = some o2 → o1.rw = true → o2.live = true → l1.c ≠ l2.c
  size : a.tmps.size = (st 0).size
  tm : ∀ t, VRel μ (tv st vl ops S ops.size t) (a.tmps.getD t undef)
  defers : a.defers = d0
  ext0 : ∀ b l, μ0 b = some l → μ b = some l
  dom0 : ∀ b l, μ b = some l → μ0 b = some l ∨ ((st 0).heap.next ≤ b ∧ b < (st ops.size).heap.next)
  grow0 : w0.heap.size ≤ w.heap.size
  os0 : w.os = w0.os
  tape0 : w.tape = w0.tape
  out0 : w.output = w0.output
  keep0 : ∀ c, c < w0.heap.size → (∀ b l o, μ0 b = some l → (st 0).heap.get b = some o → o.rw = true → l.c ≠ c) → w.heap[c]? = w0.heap[c]?
  img0 : ∀ b l o, μ b = some l → cont st S ops.size b = some o → o.live = true →
    w0.heap.size ≤ l.c ∨ ∃ b0 l0 o0, μ0 b0 = some l0 ∧ (st 0).heap.get b0 = some o0 ∧ o0.live = true ∧ (o.rw = true → o0.rw = true) ∧ l0.c = l.c

def addS (S : Nat → Bool) (i : Nat) : Nat → Bool := fun k => Nat.beq k i || S k
theorem addS_same (S : Nat → Bool) (i : Nat) : addS S i i = true := by simp [addS]
theorem addS_ne (S : Nat → Bool) {i k : Nat} (h : k ≠ i) : addS S i k = S k := by
  have : Nat.beq k i = false := by
    cases hb : Nat.beq k i with
    | false => rfl
    | true => exact absurd (Nat.eq_of_beq_eq_true hb) h
  simp [addS, this]

/-- One operation more, run over a part of memory. -/
theorem Inv.next {ops : Array Oper} {st : Nat → St} {vl : Nat → Value} {μ0 μ μ' : Emb} {w0 w w' : World} {d0 : List Deferred} {S : Nat → Bool} {a : Act} {i : Nat} {H Hn : Heap} {o : Oper} {v' : Value}
    (I : Inv ops st vl μ0 w0 d0 S μ a w) (hi : i < ops.size) (ho : ops[i]? = some o) (hp : Post μ H w μ' Hn w') (hv : VRel μ' (vl i) v') (hmono : ∀ k, (st k).heap.next ≤ (st (k + 1)).heap.next)
    (hn1 : (st i).heap.next ≤ H.next) (hn2 : Hn.next ≤ (st (i + 1)).heap.next)
    (c1 : ∀ b l x, μ b = some l → H.get b = some x → cont st S ops.size b = some x)
    (c2 : ∀ b l x, μ' b = some l → Hn.get b = some x → cont st (addS S i) ops.size b = some x)
    (c3 : ∀ b l x, μ' b = some l → Hn.get b = none → cont st (addS S i) ops.size b = some x → μ b = some l ∧ H.get b = none ∧ cont st S ops.size b = some x)
    (hdc : DC ops (addS S i)) (hdl : ∀ d, o.dst = some d → d < (st 0).size)
    (ht1 : ∀ t, o.dst = some t → tv st vl ops (addS S i) ops.size t = vl i) (ht2 : ∀ t, o.dst ≠ some t → tv st vl ops (addS S i) ops.size t = tv st vl ops S ops.size t) :
    Inv ops st vl μ0 w0 d0 (addS S i) μ' (a.put o.dst v') w' := by
  have mono0 : ∀ k, (st 0).heap.next ≤ (st k).heap.next := by
    intro k
    induction k with
    | zero => exact Nat.le_refl _
    | succ k ih => exact Nat.le_trans ih (hmono k)
  have monoL : ∀ j k, j ≤ k → (st j).heap.next ≤ (st k).heap.next := by
    intro j k h
    induction h with
    | refl => exact Nat.le_refl _
    | step _ ih => exact Nat.le_trans ih (hmono _)
  have hlast := monoL (i + 1) ops.size hi
  -- a block outside the part that was run keeps its place
  have far : ∀ b l x, μ b = some l → H.get b = none → cont st S ops.size b = some x → x.live = true → w'.heap[l.c]? = w.heap[l.c]? := by
    intro b l x hb hh hc hlv
    refine hp.keep l.c ((I.obj b l x hb hc).lt hlv) fun b2 l2 o2 hb2 ho2 hr2 => ?_
    exact I.inj b2 b l2 l o2 x (fun e => by subst e; rw [hh] at ho2; cases ho2) hb2 hb (c1 b2 l2 o2 hb2 ho2) hc hr2 hlv
  refine ⟨hdc, fun b l hb => ?_, fun b l x hb hc => ?_, fun b1 b2 l1 l2 o1 o2 hne hb1 hb2 hc1 hc2 hr1 hr2 => ?_, ?_, fun t => ?_, ?_, fun b l hb => hp.ext b l (I.ext0 b l hb), fun b l hb => ?_, Nat.le_trans I.grow0 hp.grow,
    hp.os.trans I.os0, hp.tape.trans I.tape0, hp.out.trans I.out0, fun c hc hnot => ?_, fun b l x hb hc hlv => ?_⟩
  · rcases hp.dom b l hb with h1 | ⟨h1, h2⟩
    · rcases I.dom b l h1 with h2 | ⟨k, hk, hs, h3, h4⟩ | h2
      · exact .inl h2
      · refine .inr (.inl ⟨k, hk, ?_, h3, h4⟩)
        unfold addS; rw [hs]; simp
      · exact .inr (.inr h2)
    · exact .inr (.inl ⟨i, hi, addS_same S i, by omega, by omega⟩)
  · cases hg : Hn.get b with
    | some y =>
      have := c2 b l y hb hg
      rw [this] at hc; injection hc with hc; subst hc
      exact hp.wrel.obj b l y hb hg
    | none =>
      obtain ⟨h1, h2, h3⟩ := c3 b l x hb hg hc
      exact (I.obj b l x h1 h3).keep hp.ext hp.grow (fun hlv => far b l x h1 h2 h3 hlv)
  · -- no two blocks at one place
    cases hg1 : Hn.get b1 with
    | some y1 =>
      have e1 := c2 b1 l1 y1 hb1 hg1
      rw [e1] at hc1; injection hc1 with hc1; subst hc1
      cases hg2 : Hn.get b2 with
      | some y2 =>
        have e2 := c2 b2 l2 y2 hb2 hg2
        rw [e2] at hc2; injection hc2 with hc2; subst hc2
        exact hp.wrel.inj b1 b2 l1 l2 y1 y2 hne hb1 hb2 hg1 hg2 hr1 hr2
      | none =>
        obtain ⟨h1, h2, h3⟩ := c3 b2 l2 o2 hb2 hg2 hc2
        have hlt := (I.obj b2 l2 o2 h1 h3).lt hr2
        rcases hp.img b1 l1 y1 hb1 hg1 (rw_live hr1) with hh | ⟨b0, l0, o0, g1, g2, g3, g4, g5⟩
        · omega
        · rw [← g5]
          exact I.inj b0 b2 l0 l2 o0 o2 (fun e => by subst e; rw [h2] at g2; cases g2) g1 h1 (c1 b0 l0 o0 g1 g2) h3 (g4 hr1) hr2
    | none =>
      obtain ⟨h1, h2, h3⟩ := c3 b1 l1 o1 hb1 hg1 hc1
      cases hg2 : Hn.get b2 with
      | some y2 =>
        have e2 := c2 b2 l2 y2 hb2 hg2
        rw [e2] at hc2; injection hc2 with hc2; subst hc2
        have hlt := (I.obj b1 l1 o1 h1 h3).lt (rw_live hr1)
        rcases hp.img b2 l2 y2 hb2 hg2 hr2 with hh | ⟨b0, l0, o0, g1, g2, g3, g4, g5⟩
        · omega
        · rw [← g5]
          exact I.inj b1 b0 l1 l0 o1 o0 (fun e => by subst e; rw [h2] at g2; cases g2) h1 g1 h3 (c1 b0 l0 o0 g1 g2) hr1 g3
      | none =>
        obtain ⟨k1, k2, k3⟩ := c3 b2 l2 o2 hb2 hg2 hc2
        exact I.inj b1 b2 l1 l2 o1 o2 hne h1 k1 h3 k3 hr1 hr2
  · cases hd : o.dst with
    | none => exact I.size
    | some d => simp only [Act.put, Array.size_setIfInBounds]; exact I.size
  · have hold := (I.tm t).mono hp.ext
    cases hd : o.dst with
    | none => rw [ht2 t (by rw [hd]; simp)]; exact hold
    | some d =>
      simp only [Act.put, getD_set]
      by_cases hdt : d = t
      · subst hdt
        rw [ht1 d hd, if_pos ⟨rfl, by rw [I.size]; exact hdl d hd⟩]; exact hv
      · rw [ht2 t (by rw [hd]; simpa using hdt), if_neg (fun e => hdt e.1)]; exact hold
  · rw [act_put_defers]; exact I.defers
  · rcases hp.dom b l hb with h1 | ⟨h1, h2⟩
    · exact I.dom0 b l h1
    · exact .inr ⟨by have := mono0 i; omega, by omega⟩
  · rw [hp.keep c (Nat.lt_of_lt_of_le hc I.grow0) ?_, I.keep0 c hc hnot]
    intro b l x hb hx hr he
    rcases I.img0 b l x hb (c1 b l x hb hx) (rw_live hr) with hh | ⟨b0, l0, o0, g1, g2, g3, g4, g5⟩
    · omega
    · exact hnot b0 l0 o0 g1 g2 (g4 hr) (g5.trans he)
  · cases hg : Hn.get b with
    | some y =>
      have := c2 b l y hb hg
      rw [this] at hc; injection hc with hc; subst hc
      rcases hp.img b l y hb hg hlv with hh | ⟨b0, l0, o0, g1, g2, g3, g4, g5⟩
      · exact .inl (Nat.le_trans I.grow0 hh)
      · rcases I.img0 b0 l0 o0 g1 (c1 b0 l0 o0 g1 g2) g3 with hh | ⟨b3, l3, o3, e1, e2, e3, e4, e5⟩
        · exact .inl (g5 ▸ hh)
        · exact .inr ⟨b3, l3, o3, e1, e2, e3, fun hx => e4 (g4 hx), e5.trans g5⟩
    | none =>
      obtain ⟨h1, h2, h3⟩ := c3 b l x hb hg hc
      exact I.img0 b l x h1 h3 hlv
end Go.R
