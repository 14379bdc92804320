/-
  The regions whole; code; calls: what the evaluator finds, the model does, on every tape.
  No condition beyond those that each statement names.
-/
import Derived.Test.YtcakpkdeojhacaaRxRegion3
namespace Go.R
section
variable {P : Program} {G : Nat} {cf : CallF} {ops : Array Oper} {st : Nat → St} {vl : Nat → Value} {nf : Nat → Inf}
variable {μ0 μ : Emb} {w0 w : World} {d0 : List Deferred} {a : Act}

def cnt (S : Nat → Bool) : Nat → Nat
  | 0 => 0
  | n + 1 => cnt S n + if S n = true then 0 else 1
theorem cnt_far {S : Nat → Bool} {i : Nat} : ∀ n, n ≤ i → cnt (addS S i) n = cnt S n
  | 0, _ => rfl
  | n + 1, h => by
    have := cnt_far (S := S) (i := i) n (by omega)
    simp only [cnt, this, addS_ne S (show n ≠ i by omega)]
theorem cnt_add {S : Nat → Bool} {i : Nat} (hs : S i = false) : ∀ n, i < n → cnt (addS S i) n + 1 = cnt S n
  | 0, h => by omega
  | n + 1, h => by
    by_cases hi : i = n
    · subst hi
      simp only [cnt, cnt_far i (Nat.le_refl i), addS_same, hs, if_true, Bool.false_eq_true, if_false]
    · have := cnt_add hs n (by omega)
      simp only [cnt, addS_ne S (show n ≠ i by omega)]
      omega
theorem cnt_zero {S : Nat → Bool} : ∀ n, cnt S n = 0 → ∀ k, k < n → S k = true
  | 0, _, k, h => by omega
  | n + 1, h, k, hk => by
    simp only [cnt] at h
    by_cases hs : S n = true
    · by_cases hkn : k = n
      · subst hkn; exact hs
      · exact cnt_zero n (by omega) k (by omega)
    · rw [if_neg hs] at h; omega
theorem cnt_le {S : Nat → Bool} : ∀ n, cnt S n ≤ n
  | 0 => Nat.le_refl _
  | n + 1 => by have := cnt_le (S := S) n; simp only [cnt]; split <;> omega

def setOf (listed : Array Bool) : Nat → Bool := fun k => listed.getD k false
theorem setOf_set {listed : Array Bool} {i : Nat} (hi : i < listed.size) : setOf (listed.setIfInBounds i true) = addS (setOf listed) i := by
  funext k
  unfold setOf addS
  simp only [Array.getD_eq_getD_getElem?, Array.getElem?_setIfInBounds]
  by_cases hk : i = k
  · subst hk; simp [hi]
  · have : Nat.beq k i = false := by
      cases hb : Nat.beq k i with
      | false => rfl
      | true => exact absurd (Nat.eq_of_beq_eq_true hb).symm hk
    simp [hk, this]

theorem ready_iff {listed : Array Bool} (hl : listed.size = ops.size) {i : Nat} : i ∈ Region.ready .any ops listed ↔
    ∃ o, Ready ops (setOf listed) i o := by
  unfold Region.ready
  rw [List.mem_filter, List.mem_range]
  constructor
  · rintro ⟨hi, h⟩
    have ho : ops[i]? = some ops[i] := Array.getElem?_eq_getElem hi
    rw [ho] at h
    simp only [Bool.and_eq_true, Bool.not_eq_true', Option.map_some, Option.getD_some] at h
    refine ⟨ops[i], ho, ?_, fun e he hb => ?_⟩
    · unfold setOf
      have h1 := h.1
      simp only [Array.getD_eq_getD_getElem?, Array.getElem?_eq_getElem (show i < listed.size by omega), Option.getD_some] at h1 ⊢
      exact h1
    · have h2 := h.2
      rw [Array.all_eq_true'] at h2
      have := h2 e (by simpa using he)
      rw [hb] at this
      simpa [setOf] using this
  · rintro ⟨o, ho, hn, he⟩
    have hi : i < ops.size := (Array.getElem?_eq_some_iff.1 ho).1
    refine ⟨hi, ?_⟩
    rw [ho]
    simp only [Bool.and_eq_true, Bool.not_eq_true', Option.map_some, Option.getD_some]
    constructor
    · unfold setOf at hn
      simp only [Array.getD_eq_getD_getElem?, Array.getElem?_eq_getElem (show i < listed.size by omega), Option.getD_some] at hn ⊢
      exact hn
    · rw [Array.all_eq_true']
      intro e hem
      cases hb : Region.binds .any e with
      | false => rfl
      | true =>
        have := he e (by simpa using hem) hb
        simpa [setOf] using this

theorem all_of_none (T : Trace P G cf ops st vl nf) {listed : Array Bool} (hl : listed.size = ops.size) (h : Region.ready .any ops listed = []) : ∀ k, k < ops.size → setOf listed k = true := by
  intro k
  induction k using Nat.strongRecOn with
  | _ k ih =>
    intro hk
    cases hs : setOf listed k with
    | true => rfl
    | false =>
      exfalso
      have ho := Array.getElem?_eq_getElem hk
      have : k ∈ Region.ready .any ops listed := (ready_iff hl).2 ⟨ops[k], ho, hs, fun e he hb => by
        have hlt := T.reg.back k ops[k] ho e he hb
        exact ih e.on hlt (by omega)⟩
      rw [h] at this; simp at this

theorem any_sound (hcf : CallOK P G cf) (T : Trace P G cf ops st vl nf) (hG : GRel μ0 G) {Q : Exit → Act → World → Prop}
    (hQ : ∀ S μ a w, (∀ k, k < ops.size → S k = true) → Inv ops st vl μ0 w0 d0 S μ a w → Q .normal a w) :
    ∀ (fuel : Nat) (listed : Array Bool) (μ : Emb) (a : Act) (w : World), listed.size = ops.size → cnt (setOf listed) ops.size ≤ fuel → Inv ops st vl μ0 w0 d0 (setOf listed) μ a w →
      wpAny P .any ops Q fuel listed a w
  | 0, listed, μ, a, w, hl, hc, I => by
    have hall := cnt_zero ops.size (by omega : cnt (setOf listed) ops.size = 0)
    refine ⟨?_, hQ _ μ a w hall I⟩
    cases hr : Region.ready .any ops listed with
    | nil => rfl
    | cons i t =>
      exfalso
      have hm : i ∈ Region.ready .any ops listed := by rw [hr]; simp
      obtain ⟨o, R⟩ := (ready_iff hl).1 hm
      have := hall i R.lt
      rw [R.new] at this; cases this
  | fuel + 1, listed, μ, a, w, hl, hc, I => by
    refine ⟨fun h => hQ _ μ a w (all_of_none T hl h) I, fun i hi => ?_⟩
    obtain ⟨o, R⟩ := (ready_iff hl).1 hi
    refine inv_step hcf T I hG R fun μ' a' w' I' => ?_
    have hset := setOf_set (listed := listed) (i := i) (by rw [hl]; exact R.lt)
    refine any_sound hcf T hG hQ fuel (listed.setIfInBounds i true) μ' a' w' (by simp [hl]) ?_ (by rw [hset]; exact I')
    rw [hset]
    have := cnt_add R.new ops.size R.lt
    omega

theorem inv_start (T : Trace P G cf ops st vl nf) (ht : TRel μ0 (st 0).tmps (st 0).size a.tmps) (hw : WRel μ0 (st 0).heap w) (hdom : ∀ b l, μ0 b = some l → b < (st 0).heap.next ∨ (st ops.size).heap.next ≤ b) (S : Nat → Bool) (hS : ∀ k, S k = false) :
    Inv ops st vl μ0 w a.defers S μ0 a w := by
  have hc : ∀ b, cont st S ops.size b = (st 0).heap.get b := by
    intro b
    have := cont_eq st (S := S) (b := b) (i := 0) ops.size (fun k _ _ => by rw [hS k]; simp)
    rwa [Nat.min_zero] at this
  have htv : ∀ t, tv st vl ops S ops.size t = lget (st 0).tmps t := by
    intro t
    have := tv_eq st vl ops (S := S) (t := t) (i := 0) (fun k => T.tm k t) ops.size (fun k _ _ => by rw [hS k]; simp)
    rwa [Nat.min_zero] at this
  refine ⟨(fun k o _ hk => by rw [hS k] at hk; cases hk), fun b l hb => ?_, fun b l o hb ho => hw.obj b l o hb (by rw [← hc]; exact ho), fun b1 b2 l1 l2 o1 o2 hne hb1 hb2 ho1 ho2 => hw.inj b1 b2 l1 l2 o1 o2 hne hb1 hb2 (by rw [← hc]; exact ho1) (by rw [← hc]; exact ho2),
    ht.1, fun t => by rw [htv]; exact ht.2 t, rfl, fun _ _ h => h, fun _ _ h => .inl h, Nat.le_refl _, rfl, rfl, rfl, fun _ _ _ => rfl, fun b l o hb ho hlv => .inr ⟨b, l, o, hb, by rw [← hc]; exact ho, hlv, id, rfl⟩⟩
  rcases hdom b l hb with h | h
  · exact .inl h
  · exact .inr (.inr h)

theorem inv_end (T : Trace P G cf ops st vl nf) {S : Nat → Bool} (hall : ∀ k, k < ops.size → S k = true) (I : Inv ops st vl μ0 w0 d0 S μ a w) :
    Post μ0 (st 0).heap w0 μ (st ops.size).heap w ∧ TRel μ (st ops.size).tmps (st ops.size).size a.tmps ∧ a.defers = d0 := by
  have hc : ∀ b, cont st S ops.size b = (st ops.size).heap.get b := by
    intro b
    have := cont_eq st (S := S) (b := b) (i := ops.size) ops.size (fun k hk _ => by rw [hall k hk]; simp [hk])
    rwa [Nat.min_self] at this
  have htv : ∀ t, tv st vl ops S ops.size t = lget (st ops.size).tmps t := by
    intro t
    have := tv_eq st vl ops (S := S) (t := t) (i := ops.size) (fun k => T.tm k t) ops.size (fun k hk _ => by rw [hall k hk]; simp [hk])
    rwa [Nat.min_self] at this
  refine ⟨⟨I.ext0, I.dom0, I.grow0, I.os0, I.tape0, I.out0, I.keep0, fun b l o hb ho hlv => I.img0 b l o hb (by rw [hc]; exact ho) hlv,
    ⟨fun b l o hb ho => I.obj b l o hb (by rw [hc]; exact ho), fun b1 b2 l1 l2 o1 o2 hne hb1 hb2 ho1 ho2 => I.inj b1 b2 l1 l2 o1 o2 hne hb1 hb2 (by rw [hc]; exact ho1) (by rw [hc]; exact ho2)⟩⟩, ⟨?_, fun t => ?_⟩, I.defers⟩
  · rw [I.size, T.sizeL ops.size]
  · have := I.tm t
    rwa [htv] at this
end

section
variable {P : Program} {G : Nat} {cf : CallF} {ops : Array Oper}

/-- The facts of a region's run in the order of its text. -/
theorem runOpsD_trace (hcf : CallOK P G cf) : ∀ (l : List Oper) (k : Nat) (fs : List (Nat × Inf)) (s s' : St), ops.toList.drop k = l → k + l.length = ops.size → runOpsD P G cf ops k fs l s = some s' → WF s.heap →
    ∃ (st : Nat → St) (vl : Nat → Value) (nf : Nat → Inf), st k = s ∧ st ops.size = s' ∧ (∀ j, ops.size ≤ j → st (j + 1) = st j) ∧ (∀ j, k ≤ j → WF (st j).heap) ∧
      (∀ j o, k ≤ j → ops[j]? = some o → OpFact P G cf ops o (st j) (st (j + 1)) (vl j) (nf j)) ∧
      (∀ j, k ≤ j → j < ops.size → ∀ q ∈ fs, ordered (ancOf ops) q.1 j = true ∨ compat q.2 (nf j) = true) ∧
      (∀ i j, k ≤ i → i < j → j < ops.size → ordered (ancOf ops) i j = true ∨ compat (nf i) (nf j) = true)
  | [], k, fs, s, s', hd, hlen, h, hw => by
    simp only [runOpsD, Option.some.injEq] at h; subst h
    simp only [List.length_nil, Nat.add_zero] at hlen
    refine ⟨fun _ => s, fun _ => undef, fun _ => .v, rfl, rfl, fun _ _ => rfl, fun _ _ => hw, fun j o hj ho => ?_, fun j hj hj2 => by omega, fun i j hi hij hj => by omega⟩
    have := (Array.getElem?_eq_some_iff.1 ho).1; omega
  | x :: os, k, fs, s, s', hd, hlen, h, hw => by
    simp only [List.length_cons] at hlen
    unfold runOpsD at h
    split at h
    case h_2 => cases h
    rename_i s1 f h1
    cases hq : allCompat (ancOf ops) k f fs with
    | false => rw [hq] at h; cases h
    | true =>
      rw [hq] at h
      simp only [cond_true] at h
      obtain ⟨v, F⟩ := stepD_fact hcf hw h1
      have hw1 : WF s1.heap := fun b hb => by rw [F.far b hb]; exact hw b (Nat.le_trans F.next hb)
      have hk : k < ops.toList.length := by simp; omega
      have hdd := List.drop_eq_getElem_cons hk
      rw [hd] at hdd
      injection hdd with e1 e2
      have hox : ops[k]? = some x := by rw [← Array.getElem?_toList, List.getElem?_eq_getElem hk, ← e1]
      obtain ⟨st, vl, nf, g1, g2, g3, g4, g5, g6, g7⟩ := runOpsD_trace hcf os (k + 1) ((k, f) :: fs) s1 s' e2.symm (by omega) h hw1
      have hcomp : ∀ (l : List (Nat × Inf)), allCompat (ancOf ops) k f l = true → ∀ q ∈ l, ordered (ancOf ops) q.1 k = true ∨ compat q.2 f = true := by
        intro l
        induction l with
        | nil => intro _ q hq; simp at hq
        | cons p l ih =>
          intro hl q hq
          obtain ⟨pj, pg⟩ := p
          simp only [allCompat, Bool.and_eq_true, Bool.or_eq_true] at hl
          rcases List.mem_cons.1 hq with rfl | hq
          · exact hl.1
          · exact ih hl.2 q hq
      refine ⟨fun j => if j ≤ k then s else st j, fun j => if j ≤ k then v else vl j, fun j => if j ≤ k then f else nf j, by simp, ?_, fun j hj => ?_, fun j hj => ?_, fun j o hj ho => ?_, fun j hj hjn q hq2 => ?_, fun i j hi hij hjn => ?_⟩
      · simp only [show ¬ (ops.size ≤ k) by omega, if_false]; exact g2
      · simp only [show ¬ (j ≤ k) by omega, show ¬ (j + 1 ≤ k) by omega, if_false]; exact g3 j hj
      · by_cases hjk : j ≤ k
        · simp only [hjk, if_true]; exact hw
        · simp only [hjk, if_false]; exact g4 j (by omega)
      · by_cases hjk : j = k
        · subst hjk
          rw [hox] at ho; injection ho with ho; subst ho
          simp only [Nat.le_refl, if_true, show ¬ (j + 1 ≤ j) by omega, if_false, g1]
          exact F
        · simp only [show ¬ (j ≤ k) by omega, show ¬ (j + 1 ≤ k) by omega, if_false]
          exact g5 j o (by omega) ho
      · by_cases hjk : j = k
        · subst hjk
          simp only [Nat.le_refl, if_true]
          exact hcomp fs hq q hq2
        · simp only [show ¬ (j ≤ k) by omega, if_false]
          exact g6 j (by omega) hjn q (List.mem_cons_of_mem _ hq2)
      · by_cases hik : i = k
        · subst hik
          simp only [Nat.le_refl, if_true, show ¬ (j ≤ i) by omega, if_false]
          exact g6 j (by omega) hjn (i, f) (by simp)
        · simp only [show ¬ (i ≤ k) by omega, show ¬ (j ≤ k) by omega, if_false]
          exact g7 i j (by omega) hij hjn

/-- Where the numbers of the heap stand to the embedding. -/
def Dom (μ : Emb) (H : Heap) : Prop := ∀ b l, μ b = some l → b < H.next

theorem region_sound (hcf : CallOK P G cf) {id : Nat} {draw : Bool} {s s' : St} (h : runRegion P G cf ops draw s = some s') {μ : Emb} {a : Act} {w : World} {Q : Exit → Act → World → Prop}
    (hwf : WF s.heap) (ht : TRel μ s.tmps s.size a.tmps) (hG : GRel μ G) (hw : WRel μ s.heap w) (hdom : ∀ b l, μ b = some l → b < s.heap.next ∨ s'.heap.next ≤ b)
    (hQ : ∀ μ' w' a', Post μ s.heap w μ' s'.heap w' → TRel μ' s'.tmps s'.size a'.tmps → a'.defers = a.defers → Q .normal a' w') : (Code.region id ops draw).wp P Q a w := by
  have hfresh : ∀ b, s.heap.next ≤ b → b < s'.heap.next → μ b = none := by
    intro b h1 h2
    cases hb : μ b with
    | none => rfl
    | some l => rcases hdom b l hb with h3 | h3 <;> omega
  unfold runRegion at h
  cases draw with
  | false =>
    simp only [cond_false] at h
    refine wp_region ?_
    rw [List.range_eq_range']
    have := runOps_sound hcf ops.toList 0 s s' rfl h μ a w hwf ht hG hw hfresh (Q := Q) hQ
    simpa using this
  | true =>
    simp only [cond_true] at h
    cases hq : (regOK ops && P.follows .mixedOrders) with
    | false => rw [hq] at h; cases h
    | true =>
      rw [hq] at h
      simp only [cond_true] at h
      simp only [Bool.and_eq_true] at hq
      obtain ⟨st, vl, nf, g1, g2, g3, g4, g5, _, g7⟩ := runOpsD_trace hcf ops.toList 0 [] s s' rfl (by simp) h hwf
      have T : Trace P G cf ops st vl nf := ⟨fun k o ho => g5 k o (Nat.zero_le _) ho, g3, fun j k hjk hk => g7 j k (Nat.zero_le _) hjk hk, regOK_facts hq.1, fun k => g4 k (Nat.zero_le _)⟩
      refine wp_region_any hq.2 ?_
      rw [World.drew_eq]
      have I := inv_start (a := a) (w := w.drew) (μ0 := μ) T (by rw [g1]; exact ht) (by rw [g1]; exact hw.drew) (by rw [g1, g2]; exact hdom) (setOf (Array.replicate ops.size false)) (fun k => by
        unfold setOf; simp [Array.getD_eq_getD_getElem?, Array.getElem?_replicate]; split <;> rfl)
      refine any_sound hcf T hG (fun S μ' a' w' hS I' => ?_) ops.size _ μ a w.drew (by simp) (cnt_le _) I
      obtain ⟨hp, ht', hd'⟩ := inv_end T hS I'
      rw [g1, g2] at hp
      rw [g2] at ht'
      refine hQ μ' w' a' ((Post.drew hw).trans hp (Nat.le_refl _) ?_) ht' hd'
      have := T.monoL (Nat.zero_le ops.size)
      rwa [g1, g2] at this
end
end Go.R
