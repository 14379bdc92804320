/-
  All operations together; how the evaluator's heap grows; one step of a region.
  No condition beyond those that each statement names.
-/
import Derived.Test.YtcakpkdeojhacaaRxMem3
namespace Go.R

/-! How the abstract heap grows. -/
structure Ext (H H' : Heap) : Prop where
  next : H.next ≤ H'.next
  log : ∃ d, H'.log = d ++ H.log ∧ ∀ b, b < H.next → b ∉ d → H'.get b = H.get b
  far : ∀ b, H'.next ≤ b → H'.get b = H.get b
theorem Ext.refl (H : Heap) : Ext H H := ⟨Nat.le_refl _, ⟨[], rfl, fun _ _ _ => rfl⟩, fun _ _ => rfl⟩
theorem Ext.trans {H H1 H2 : Heap} (h : Ext H H1) (k : Ext H1 H2) : Ext H H2 := by
  obtain ⟨d1, e1, g1⟩ := h.log
  obtain ⟨d2, e2, g2⟩ := k.log
  refine ⟨Nat.le_trans h.next k.next, ⟨d2 ++ d1, by rw [e2, e1, List.append_assoc], fun b hb hn => ?_⟩, fun b hb => ?_⟩
  · rw [List.mem_append, not_or] at hn
    rw [g2 b (Nat.lt_of_lt_of_le hb h.next) hn.1, g1 b hb hn.2]
  · rw [k.far b hb, h.far b (Nat.le_trans k.next hb)]
theorem Ext.push (H : Heap) (o : AObj) : Ext H (H.push o) := by
  refine ⟨by simp, ⟨[], rfl, fun b hb _ => Heap.get_push_ne H o (by omega)⟩, fun b hb => Heap.get_push_ne H o ?_⟩
  simp at hb; omega
theorem Ext.put {H : Heap} {b : Nat} (o : AObj) (hb : b < H.next) : Ext H (H.put b o) := by
  refine ⟨Nat.le_refl _, ⟨[b], rfl, fun k _ hk => Heap.get_put_ne H o (fun e => hk (by simp [e]))⟩, fun k hk => Heap.get_put_ne H o ?_⟩
  simp at hk; omega

/-- No block beyond the count. -/
def WF (H : Heap) : Prop := ∀ b, H.next ≤ b → H.get b = none
theorem WF.ext {H H' : Heap} (h : WF H) (e : Ext H H') : WF H' := fun b hb => by rw [e.far b hb]; exact h b (Nat.le_trans e.next hb)
theorem WF.lt {H : Heap} (h : WF H) {b : Nat} {o : AObj} (hg : H.get b = some o) : b < H.next := by
  rcases Nat.lt_or_ge b H.next with hl | hl
  · exact hl
  · rw [h b hl] at hg; cases hg

section ext
variable {P : Program} {H H' : Heap}
def ER (H : Heap) {α : Type} (r : Option (α × Heap)) : Prop := ∀ a H', r = some (a, H') → Ext H H'
theorem ER.none_ {α : Type} : ER H (none : Option (α × Heap)) := fun _ _ h => by cases h
theorem ER.some_ {α : Type} {a : α} {H1 : Heap} (h : Ext H H1) : ER H (some (a, H1)) := fun _ _ e => by injection e with e; injection e with _ e; subst e; exact h
theorem ER.same {α : Type} {a : α} : ER H (some (a, H)) := ER.some_ (Ext.refl H)
theorem ER.bif_ {α : Type} {c : Bool} {x y : Option (α × Heap)} (h : ER H x) (k : ER H y) : ER H (bif c then x else y) := by cases c <;> assumption
def EO (H : Heap) (r : Option Heap) : Prop := ∀ H', r = some H' → Ext H H'
theorem EO.none_ : EO H none := fun _ h => by cases h
theorem EO.some_ {H1 : Heap} (h : Ext H H1) : EO H (some H1) := fun _ e => by injection e with e; subst e; exact h
theorem EO.bif_ {c : Bool} {x y : Option Heap} (h : EO H x) (k : EO H y) : EO H (bif c then x else y) := by cases c <;> assumption
theorem ER.ovl_ (r : Option Value) : ER H (ovl r H) := by unfold ovl; split; exact ER.same; exact ER.none_
theorem ER.ovh_ {r : Option (Value × Heap)} (h : ER H r) : ER H (ovh r) := by
  unfold ovh
  split
  · rename_i v h1; exact ER.some_ (h v h1 rfl)
  · exact ER.none_
theorem ER.osk_ {r : Option Heap} (h : EO H r) : ER H (osk r) := by
  unfold osk
  split
  · rename_i h1; exact ER.some_ (h h1 rfl)
  · exact ER.none_
theorem ER.lift_ (s : Sem Value) : ER H (lift P s H) := by unfold lift; split; exact ER.same; exact ER.none_
theorem ER.plain_ (ρ : Operand → Value) (o : Oper) : ER H (plainOp P ρ o H) := by
  unfold plainOp
  refine ER.bif_ ?_ ER.none_
  split
  · exact ER.bif_ ER.same ER.none_
  · exact ER.none_

theorem storeL_ext (hw : WF H) (a : Addr) (vs : List Value) : EO H (H.storeL a vs) := by
  unfold Heap.storeL
  split
  · split
    · rename_i hg; exact EO.bif_ (EO.some_ (Ext.put _ (hw.lt hg))) EO.none_
    · exact EO.none_
  · exact EO.none_

theorem append_ext (hw : WF H) (types : Array TypeId) (s x : Value) : ER H (aAppend P types s x H) := by
  unfold aAppend
  split
  case h_2 => exact ER.none_
  split
  case h_2 => exact ER.none_
  split
  · exact ER.none_
  split
  case h_2 => exact ER.none_
  split
  · exact ER.none_
  split
  · exact ER.bif_ ER.same (ER.bif_ (ER.some_ (Ext.push _ _)) ER.none_)
  · split
    · rename_i hg
      refine ER.bif_ (ER.bif_ ER.same ?_) (ER.bif_ ?_ ER.none_)
      · split
        · rename_i h1 hst; exact ER.some_ (storeL_ext hw _ _ h1 hst)
        · exact ER.none_
      · split
        · exact ER.none_
        · split
          · exact ER.some_ (Ext.push _ _)
          · exact ER.bif_ (ER.some_ ((Ext.put .dead (hw.lt hg)).trans (Ext.push _ _))) ER.none_
    · exact ER.none_
  · exact ER.none_

theorem copy_ext (hw : WF H) (types : Array TypeId) (d s : Value) : ER H (aCopy P types d s H) := by
  unfold aCopy
  split
  case h_2 => exact ER.none_
  split
  case h_2 => exact ER.none_
  split
  case h_2 => exact ER.none_
  refine ER.bif_ ER.same ?_
  split
  · split
    · rename_i h1 hst; exact ER.some_ (storeL_ext hw _ _ h1 hst)
    · exact ER.none_
  · exact ER.none_

theorem update_ext (hw : WF H) (t : TypeId) (m k v : Value) : EO H (aUpdate P t m k v H) := by
  unfold aUpdate
  split
  · split
    · split
      · rename_i hg; exact EO.bif_ (EO.some_ (Ext.put _ (hw.lt hg))) EO.none_
      · exact EO.none_
    · exact EO.none_
  · exact EO.none_

theorem aop_er (hw : WF H) (ρ : Operand → Value) (o : Oper) : ER H (aop P ρ o H) := by
  unfold aop
  split
  · exact ER.same
  · exact ER.same
  · unfold opPick; split; exact ER.same; exact ER.none_
  · unfold opAlloc; split; exact ER.some_ (Ext.push _ _); exact ER.none_
  · exact ER.some_ (Ext.push _ _)
  · unfold opBuild; split; exact ER.lift_ _; exact ER.none_
  · unfold opBuildSlice
    split
    · refine ER.bif_ ?_ ER.none_
      split
      · exact ER.some_ (Ext.push _ _)
      · exact ER.none_
    · exact ER.none_
  · unfold opLoad; split; exact ER.ovl_ _; exact ER.none_
  · unfold opStore
    split
    · split
      · exact ER.bif_ (ER.osk_ (storeL_ext hw _ _)) ER.none_
      · exact ER.none_
    · exact ER.none_
  · unfold opNil; split; exact ER.same; exact ER.same; exact ER.none_
  · unfold aBin
    split
    · unfold binInt; split; exact ER.ovl_ _; exact ER.none_
    · unfold binStr; split; exact ER.ovl_ _; exact ER.none_
    · unfold binRest
      split
      · exact ER.plain_ _ _
      · exact ER.plain_ _ _
      · intro a H' h; rw [(nilBin_inv h).1]; exact Ext.refl _
  · unfold aConvert; split; exact ER.ovl_ _; exact ER.ovl_ _; exact ER.plain_ _ _
  · exact ER.same
  · exact ER.some_ (Ext.push _ _)
  · refine ER.ovh_ ?_
    unfold aMake
    split
    · split
      · exact ER.bif_ (ER.some_ (Ext.push _ _)) ER.none_
      · exact ER.none_
    · exact ER.none_
  · exact ER.ovl_ _
  · exact ER.ovl_ _
  · exact ER.ovl_ _
  · exact ER.ovl_ _
  · unfold aIndex; split; exact ER.ovl_ _; exact ER.lift_ _
  · exact ER.ovl_ _
  · exact ER.osk_ (update_ext hw _ _ _ _)
  · exact ER.osk_ (update_ext hw _ _ _ _)
  · refine ER.ovh_ ?_
    unfold aRange; split; exact ER.some_ (Ext.push _ _); exact ER.none_
  · refine ER.ovh_ ?_
    unfold aNext
    split
    · split
      · rename_i hg; exact ER.bif_ (ER.some_ (Ext.put _ (hw.lt hg))) ER.same
      · exact ER.none_
    · exact ER.none_
  · exact ER.ovl_ _
  · unfold opCall
    split
    · unfold aBuiltin
      split
      · unfold bLen; split; exact ER.ovl_ _; exact ER.none_
      · unfold bAppend; split; exact ER.ovh_ (append_ext hw _ _ _); exact ER.none_
      · unfold bCopy; split; exact ER.ovh_ (copy_ext hw _ _ _); exact ER.none_
      · exact ER.plain_ _ _
      · exact ER.plain_ _ _
      · exact ER.none_
    · unfold opCallee; split; exact ER.same; exact ER.none_
    · exact ER.none_
  · unfold aUn
    split
    · split; exact ER.same; exact ER.none_
    · exact ER.plain_ _ _
  · exact ER.none_
theorem aop_ext (hw : WF H) {ρ : Operand → Value} {o : Oper} {r : AN} (h : aop P ρ o H = some (r, H')) : Ext H H' := aop_er hw ρ o r H' h
end ext

/-! All operations. -/
section
variable {P : Program} {μ : Emb} {H H' : Heap} {w : World}

theorem two_of {l : List Value} {a b : Value} {args' : Array Value} (h : LRel μ l args'.toList) (he : l = [a, b]) : ∃ a' b', args' = #[a', b'] ∧ VRel μ a a' ∧ VRel μ b b' := by
  subst he
  obtain ⟨a', t, h1, ha, ht⟩ := h.cons_left
  obtain ⟨b', t2, h2, hb, ht2⟩ := ht.cons_left
  have := ht2.nil_left
  subst this h2
  exact ⟨a', b', Array.toList_inj.1 (by rw [h1]), ha, hb⟩
theorem one_of {l : List Value} {a : Value} {args' : Array Value} (h : LRel μ l args'.toList) (he : l = [a]) : ∃ a', args' = #[a'] ∧ VRel μ a a' := by
  subst he
  obtain ⟨a', t, h1, ha, ht⟩ := h.cons_left
  have := ht.nil_left
  subst this
  exact ⟨a', Array.toList_inj.1 (by rw [h1]), ha⟩

theorem OpOK.of_value {s : Sem Next} {v v' : Value} (h : ∀ w, s.run P w = .ok (.value v') w) (hw : WRel μ H w) (hr : VRel μ v v') : OpOK P μ H w s (.val v) H :=
  ⟨.value v', w, μ, h w, Post.refl hw, hr⟩

theorem opt_rel {ρ ρ' : Operand → Value} {x : Option Operand} (h : ∀ y, x = some y → VRel μ (ρ y) (ρ' y)) :
    (∀ v, x.map ρ = some v → ∃ v', x.map ρ' = some v' ∧ VRel μ v v') ∧ (x.map ρ = none → x.map ρ' = none) := by
  cases x with
  | none => exact ⟨fun v hv => by simp at hv, fun _ => rfl⟩
  | some y => exact ⟨fun v hv => by simp at hv; subst hv; exact ⟨_, rfl, h y rfl⟩, fun hn => by simp at hn⟩

set_option maxHeartbeats 4000000 in
/-- THE STEP: every operation. -/
theorem aop_sound {ρ ρ' : Operand → Value} {o : Oper} {r : AN} (hρ : ∀ x ∈ o.op.operands, VRel μ (ρ x) (ρ' x)) (hw : WRel μ H w)
    (hf : ∀ b, H.next ≤ b → b < H'.next → μ b = none) (h : aop P ρ o H = some (r, H')) : OpOK P μ H w (execOp ρ' o) r H' := by
  cases hk : valueKind o.op with
  | true =>
    obtain ⟨rfl, v, v', rfl, hrun, hr⟩ := value_sound hk hρ h
    exact OpOK.of_value hrun hw hr
  | false =>
    obtain ⟨dst, op, type, pos, after, guard⟩ := o
    cases op <;> simp only [valueKind, reduceCtorEq] at hk
    case alloc e =>
      have h' : opAlloc P e H = some (r, H') := h
      have := alloc_sound hw hf h'
      exact this
    case box e x =>
      have h' : some (AN.val (ptrTo H.next), newCells H (ρ x).cells.toList none) = some (r, H') := h
      simp only [Option.some.injEq, Prod.mk.injEq] at h'
      obtain ⟨rfl, rfl⟩ := h'
      have := box_sound (P := P) (e := e) hw (hf H.next (Nat.le_refl _) (by simp [newCells])) (hρ x (by simp [Op.operands]))
      exact this
    case buildSlice t n parts =>
      have h' : opBuildSlice P t n (mapL (fun p => (p.1, ρ p.2)) parts.toList) H = some (r, H') := h
      rw [mapL_eq] at h'
      have := buildSlice_sound (ps' := parts.map fun (i, x) => (i, ρ' x)) hw hf (by simp) (fun i x x' h1 h2 => ?_) h'
      · exact this
      simp only [Array.toList_map, List.getElem?_map, Option.map_eq_some_iff] at h1 h2
      obtain ⟨y, hy, rfl⟩ := h1
      obtain ⟨z, hz, rfl⟩ := h2
      rw [hy] at hz; injection hz with hz; subst hz
      refine ⟨rfl, hρ _ ?_⟩
      have := List.mem_of_getElem? hy
      simp only [Op.operands, List.mem_toArray, List.mem_map]
      exact ⟨y, this, rfl⟩
    case load t a =>
      have h' : opLoad P t (ρ a) H = some (r, H') := h
      have := load_sound hw (hρ a (by simp [Op.operands])) h'
      exact this
    case store t a x =>
      have h' : opStore P t (ρ a) (ρ x) H = some (r, H') := h
      have := store_sound hw (hρ a (by simp [Op.operands])) (hρ x (by simp [Op.operands])) h'
      exact this
    case convert s d x =>
      have h' : aConvert P ρ ⟨dst, .convert s d x, type, pos, after, guard⟩ s d (ρ x) H = some (r, H') := h
      exact convert_sound (o := ⟨dst, .convert s d x, type, pos, after, guard⟩) hw rfl hρ h'
    case makeMap t rsv =>
      cases rsv with
      | some _ => simp [aop] at h
      | none =>
        have h' : some (AN.val (.map (some H.next)), H.push (.tab [])) = some (r, H') := h
        simp only [Option.some.injEq, Prod.mk.injEq] at h'
        obtain ⟨rfl, rfl⟩ := h'
        have := makeMap_sound (P := P) t hw (hf H.next (Nat.le_refl _) (by simp))
        exact this
    case makeSlice t l c =>
      have h' : ovh (aMake P t (ρ l) (ρ c) H) = some (r, H') := h
      have := make_sound hw hf (hρ l (by simp [Op.operands])) (hρ c (by simp [Op.operands])) h'
      exact this
    case slice t x lo hi mx =>
      obtain ⟨a1, a2⟩ := opt_rel (μ := μ) (ρ := ρ) (ρ' := ρ') (x := lo) fun y hy => hρ y (by subst hy; simp [Op.operands])
      obtain ⟨b1, b2⟩ := opt_rel (μ := μ) (ρ := ρ) (ρ' := ρ') (x := hi) fun y hy => hρ y (by subst hy; simp [Op.operands])
      obtain ⟨_, c2⟩ := opt_rel (μ := μ) (ρ := ρ) (ρ' := ρ') (x := mx) fun y hy => hρ y (by subst hy; simp [Op.operands])
      have h' : ovl (aSlice P t (ρ x) (lo.map ρ) (hi.map ρ) (mx.map ρ) H) H = some (r, H') := h
      have := slice_sound hw (hρ x (by simp [Op.operands])) a1 a2 b1 b2 c2 h'
      exact this
    case lookup t m k ok =>
      have h' : ovl (aLookup P t (ρ m) (ρ k) ok H) H = some (r, H') := h
      obtain ⟨rfl, v, hv, rfl⟩ := ovl_inv h'
      obtain ⟨v', hrun, hr⟩ := lookup_sound (P := P) hw (hρ m (by simp [Op.operands])) (hρ k (by simp [Op.operands])) hv
      have := OpOK.value hrun (Post.refl hw) hr
      exact this
    case mapUpdate t m k x =>
      have h' : osk (aUpdate P t (ρ m) (ρ k) (ρ x) H) = some (r, H') := h
      obtain ⟨hu, rfl⟩ := osk_inv h'
      obtain ⟨w', hrun, hp⟩ := update_sound (P := P) hw (hρ m (by simp [Op.operands])) (hρ k (by simp [Op.operands])) (hρ x (by simp [Op.operands])) hu
      have := OpOK.skip hrun hp
      exact this
    case insert t m k x =>
      have h' : osk (aUpdate P t (ρ m) (ρ k) (ρ x) H) = some (r, H') := h
      obtain ⟨hu, rfl⟩ := osk_inv h'
      obtain ⟨w', hrun, hp⟩ := update_sound (P := P) hw (hρ m (by simp [Op.operands])) (hρ k (by simp [Op.operands])) (hρ x (by simp [Op.operands])) hu
      have := OpOK.skip hrun hp
      exact this
    case range t x =>
      have h' : ovh (aRange P t (ρ x) H) = some (r, H') := h
      have := range_sound hw hf (hρ x (by simp [Op.operands])) h'
      exact this
    case next it isS =>
      cases isS with
      | false => simp [aop] at h
      | true =>
        have h' : ovh (aNext H (ρ it)) = some (r, H') := h
        have := next_sound (P := P) (type := type) hw (hρ it (by simp [Op.operands])) h'
        exact this
    case call c =>
      obtain ⟨callee, args, argTypes⟩ := c
      have hargs : LRel μ (mapL ρ args.toList) (args.map ρ').toList := by
        rw [mapL_eq]
        have := agg_args (μ := μ) (ops := args) (ρ := ρ) (ρ' := ρ') fun x hx => hρ x (by simp [Op.operands, Call.operands]; exact .inr hx)
        simpa using this
      have h : opCall P ρ ⟨dst, .call ⟨callee, args, argTypes⟩, type, pos, after, guard⟩ ⟨callee, args, argTypes⟩ H = some (r, H') := h
      unfold opCall at h
      cases callee with
      | invoke rv nm => simp at h
      | value f =>
        simp only at h
        unfold opCallee at h
        split at h
        · rename_i n hn
          simp only [Option.some.injEq, Prod.mk.injEq] at h
          obtain ⟨rfl, rfl⟩ := h
          obtain ⟨i, fargs, rfl, cargs, hrun, hr⟩ := callee_sound (P := P) (hρ f (by simp [Op.operands, Call.operands])) hargs hn
          refine ⟨.enter i cargs, w, μ, ?_, Post.refl hw, rfl, hr⟩
          have := hrun w
          simpa only [execOp, resolve] using this
        · cases h
      | builtin b =>
        simp only at h
        unfold aBuiltin at h
        have hplain : plainOp P ρ ⟨dst, .call ⟨.builtin b, args, argTypes⟩, type, pos, after, guard⟩ H = some (r, H') → OpOK P μ H w (execOp ρ' ⟨dst, .call ⟨.builtin b, args, argTypes⟩, type, pos, after, guard⟩) r H' := by
          intro hp
          obtain ⟨rfl, v, v', rfl, hrun, hr⟩ := plainOp_sound hp (fun _ _ => by simp) hρ
          exact OpOK.of_value hrun hw hr
        split at h
        · -- len
          unfold bLen at h
          split at h
          · rename_i t x ht hx
            obtain ⟨x', hx', hxr⟩ := one_of hargs hx
            obtain ⟨rfl, v, hv, rfl⟩ := ovl_inv h
            obtain ⟨hrun, hn⟩ := len_sound (P := P) (ty := type) hw hxr hv
            have hat : argTypes = #[t] := Array.toList_inj.1 (by rw [ht])
            refine ⟨.value v, w, μ, ?_, Post.refl hw, .atom v hn⟩
            simp only [execOp, resolve, Sem.run_bind, Sem.run_pure, Result.andThen_ok, invoke, builtin, hx', hat, hrun]
          · cases h
        · unfold bAppend at h
          split at h
          · rename_i t1 t2 s x ht hx
            obtain ⟨s', x', hx', hsr, hxr⟩ := two_of hargs hx
            obtain ⟨v, hv, rfl⟩ := ovh_inv h
            have hat : argTypes = #[t1, t2] := Array.toList_inj.1 (by rw [ht])
            obtain ⟨v', w', μ', hrun, hp, hr⟩ := append_sound (P := P) (ty := type) hw hf hsr hxr (by rw [hat]; rfl) hv
            refine ⟨.value v', w', μ', ?_, hp, hr⟩
            simp only [execOp, resolve, Sem.run_bind, Sem.run_pure, Result.andThen_ok, invoke, builtin, hx', hrun]
          · cases h
        · unfold bCopy at h
          split at h
          · rename_i d s hx
            obtain ⟨d', s', hx', hdr, hsr⟩ := two_of hargs hx
            obtain ⟨v, hv, rfl⟩ := ovh_inv h
            obtain ⟨v', w', hrun, hp, hr⟩ := copy_sound (P := P) (ty := type) hw hdr hsr hv
            refine ⟨.value v', w', μ, ?_, hp, hr⟩
            simp only [execOp, resolve, Sem.run_bind, Sem.run_pure, Result.andThen_ok, invoke, builtin, hx', hrun]
          · cases h
        · exact hplain h
        · exact hplain h
        · cases h
    all_goals simp [aop] at h
end
end Go.R
