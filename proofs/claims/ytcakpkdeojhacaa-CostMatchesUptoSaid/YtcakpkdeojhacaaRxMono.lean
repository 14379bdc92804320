/-
  More fuel changes no answer.
  No condition beyond those that each statement names.
-/
import Derived.Test.YtcakpkdeojhacaaRxExec
namespace Go.R

def CfLe (cf cf' : CallF) : Prop := ∀ f a H r, cf f a H = some r → cf' f a H = some r
def ExLe (ex ex' : Code → St → Option (Ex × St)) : Prop := ∀ c s r, ex c s = some r → ex' c s = some r

section
variable {P : Program} {G : Nat} {cf cf' : CallF} {ops : Array Oper}

theorem step_mono (h : CfLe cf cf') {o : Oper} {s s' : St} (hs : step P G cf ops o s = some s') : step P G cf' ops o s = some s' := by
  unfold step at hs ⊢
  cases hw : wantedL ops o s.tmps with
  | false => rw [hw] at hs; exact hs
  | true =>
    rw [hw] at hs
    cases hq : o.op.operands.toList.all (opnOK G) with
    | false => rw [hq] at hs; cases hs
    | true =>
      rw [hq] at hs
      simp only [cond_true] at hs ⊢
      split at hs
      · exact hs
      · exact hs
      · split at hs
        · rename_i v H2 hc; rw [h _ _ _ _ hc]; exact hs
        · cases hs
      · cases hs

theorem runOps_mono (h : CfLe cf cf') : ∀ (l : List Oper) (s s' : St), runOps P G cf ops l s = some s' → runOps P G cf' ops l s = some s'
  | [], _, _, hs => hs
  | o :: l, s, s', hs => by
    rw [runOps_cons] at hs ⊢
    split at hs
    · rename_i t ht; rw [step_mono h ht]; exact runOps_mono h l _ _ hs
    · cases hs

theorem stepD_mono (h : CfLe cf cf') {o : Oper} {s : St} {r : St × Inf} (hs : stepD P G cf ops o s = some r) : stepD P G cf' ops o s = some r := by
  unfold stepD at hs ⊢
  split at hs
  · rename_i t ht; rw [step_mono h ht]; exact hs
  · cases hs

theorem runOpsD_mono (h : CfLe cf cf') : ∀ (l : List Oper) (i : Nat) (fs : List (Nat × Inf)) (s s' : St), runOpsD P G cf ops i fs l s = some s' → runOpsD P G cf' ops i fs l s = some s'
  | [], _, _, _, _, hs => by unfold runOpsD at hs ⊢; exact hs
  | o :: l, i, fs, s, s', hs => by
    unfold runOpsD at hs ⊢
    split at hs
    · rename_i t f ht
      rw [stepD_mono h ht]
      simp only
      cases hq : allCompat (ancOf ops) i f fs with
      | false => rw [hq] at hs; cases hs
      | true => rw [hq] at hs; simp only [cond_true] at hs ⊢; exact runOpsD_mono h l _ _ _ _ hs
    · cases hs

theorem runRegion_mono (h : CfLe cf cf') {draw : Bool} {s s' : St} (hs : runRegion P G cf ops draw s = some s') : runRegion P G cf' ops draw s = some s' := by
  unfold runRegion at hs ⊢
  cases draw with
  | false => exact runOps_mono h _ _ _ hs
  | true =>
    simp only [cond_true] at hs ⊢
    cases hq : regOK ops && P.follows .mixedOrders with
    | false => rw [hq] at hs; cases hs
    | true => rw [hq] at hs; simp only [cond_true] at hs ⊢; exact runOpsD_mono h _ _ _ _ _ hs

theorem exSeq_mono {r r' : Option (Ex × St)} {k k' : St → Option (Ex × St)} (hr : ∀ x, r = some x → r' = some x) (hk : ∀ s x, k s = some x → k' s = some x) {x : Ex × St} (h : exSeq r k = some x) : exSeq r' k' = some x := by
  cases hq : r with
  | none => rw [hq] at h; cases h
  | some y =>
    rw [hr y hq]
    rw [hq] at h
    obtain ⟨e, s⟩ := y
    cases e with
    | normal => exact hk _ _ h
    | exit i => exact h
    | ret => exact h

theorem exBlock_mono {id : Nat} {r r' : Option (Ex × St)} (hr : ∀ x, r = some x → r' = some x) {x : Ex × St} (h : exBlock id r = some x) : exBlock id r' = some x := by
  cases hq : r with
  | none => rw [hq] at h; cases h
  | some y => rw [hr y hq]; rw [hq] at h; exact h

theorem execC_mono (h : CfLe cf cf') {ex ex' : Code → St → Option (Ex × St)} (hex : ExLe ex ex') (c : Code) : ∀ (s : St) (x : Ex × St), execC P G ex cf c s = some x → execC P G ex' cf' c s = some x := by
  induction c with
  | skip => intro s x hx; exact hx
  | region id ops draw =>
    intro s x hx
    rw [execC_region] at hx ⊢
    cases hq : runRegion P G cf ops draw s with
    | none => rw [hq] at hx; cases hx
    | some t => rw [runRegion_mono h hq]; rw [hq] at hx; exact hx
  | seq a b iha ihb =>
    intro s x hx
    rw [execC_seq] at hx ⊢
    exact exSeq_mono (iha s) ihb hx
  | cond c t e iht ihe =>
    intro s x hx
    rw [execC_cond] at hx ⊢
    cases hq : opnOK G c with
    | false => rw [hq] at hx; cases hx
    | true =>
      rw [hq] at hx
      simp only [cond_true] at hx ⊢
      unfold exCond at hx ⊢
      split at hx
      · rename_i b hb
        cases b with
        | true => exact iht s x hx
        | false => exact ihe s x hx
      · cases hx
  | block id b ih =>
    intro s x hx
    rw [execC_block] at hx ⊢
    exact exBlock_mono (ih s) hx
  | loop b ih =>
    intro s x hx
    rw [execC_loop] at hx ⊢
    exact exSeq_mono (ih s) (hex _) hx
  | exit id => intro s x hx; exact hx
  | ret => intro s x hx; exact hx
  | _ => intro s x hx; cases hx

theorem callC_mono {ex ex' : Code → St → Option (Ex × St)} (hex : ExLe ex ex') : CfLe (callC P ex) (callC P ex') := by
  intro f a H r h
  unfold callC at h ⊢
  split at h
  · split at h
    · split at h
      · rename_i s hx; rw [hex _ _ _ hx]; exact h
      · rename_i s hx; rw [hex _ _ _ hx]; exact h
      · cases h
    · cases h
  · cases h
theorem callK_mono {K : Known} (h : CfLe cf cf') : CfLe (callK K cf) (callK K cf') := by
  intro f a H r hr
  unfold callK at hr ⊢
  split at hr
  · exact hr
  · exact h _ _ _ _ hr

theorem exec_succ {K : Known} : ∀ n, ExLe (exec P G K n) (exec P G K (n + 1))
  | 0 => fun c s r h => by cases h
  | n + 1 => fun c s r h => execC_mono (callK_mono (callC_mono (exec_succ n))) (exec_succ n) c s r h
theorem exec_mono {K : Known} {n m : Nat} (h : n ≤ m) : ExLe (exec P G K n) (exec P G K m) := by
  induction h with
  | refl => exact fun _ _ _ h => h
  | step _ ih => exact fun c s r h => exec_succ _ c s r (ih c s r h)
theorem call_mono {K : Known} {n m : Nat} (h : n ≤ m) : CfLe (call P G K n) (call P G K m) := callK_mono (callC_mono (exec_mono h))
end
end Go.R
