/-
  Code and calls: what the evaluator finds, the model does, on every tape; and the calls whose arguments and results hold no address.
  No condition beyond those that each statement names.
-/
import Derived.Test.YtcakpkdeojhacaaRxCode
import Derived.Below
namespace Go.R
open Go.RowKit

def Ex.toExit : Ex → Exit
  | .normal => .normal
  | .exit id => .exit id
  | .ret => .ret

/-- A loop at its body's head. -/
def LoopWp (P : Program) (c : Code) (Q : Exit → Act → World → Prop) (a : Act) (w : World) : Prop :=
  ∀ (b : Frame) (k : List Item) (cs : List Frame), ∃ e a' w', Q e a' w' ∧ Arrives P (lone (b.at a (.code c :: .inLoop c :: k)) cs w) b k cs e a' w'
theorem LoopWp.wp {P : Program} {c : Code} {Q : Exit → Act → World → Prop} {a : Act} {w : World} (h : LoopWp P c Q a w) : (Code.loop c).wp P Q a w :=
  fun b k cs => let ⟨e, a', w', q, r⟩ := h b k cs; ⟨e, a', w', q, .of_steps (.one step_loop) r⟩
theorem LoopWp.round {P : Program} {c : Code} {Q : Exit → Act → World → Prop} {a : Act} {w : World} (h : c.wp P (Exit.then (LoopWp P c Q) Q) a w) : LoopWp P c Q a w := by
  intro b k cs
  obtain ⟨e, a₁, w₁, hq, harr⟩ := h b (.inLoop c :: k) cs
  cases e with
  | normal =>
    obtain ⟨e₂, a₂, w₂, hq₂, harr₂⟩ := hq b k cs
    exact ⟨e₂, a₂, w₂, hq₂, .of_steps (Steps.trans harr (.one step_inLoop)) harr₂⟩
  | exit id => exact ⟨_, a₁, w₁, hq, .pass (x := .inLoop c) rfl (fun _ _ => .inl (by simp)) harr⟩
  | goto l => exact ⟨_, a₁, w₁, hq, .pass (x := .inLoop c) rfl (fun _ _ => .inl (by simp)) harr⟩
  | ret => exact ⟨_, a₁, w₁, hq, .pass (x := .inLoop c) rfl (fun _ _ => .inl (by simp)) harr⟩
  | panic ch => exact ⟨_, a₁, w₁, hq, .pass (x := .inLoop c) rfl (fun _ _ => .inl (by simp)) harr⟩
  | outgrown => exact ⟨_, a₁, w₁, hq, .pass (x := .inLoop c) rfl (fun _ _ => .inl (by simp)) harr⟩

def Wp (P : Program) (c : Code) (Q : Exit → Act → World → Prop) (a : Act) (w : World) : Prop :=
  match c with
  | .loop b => LoopWp P b Q a w
  | c => c.wp P Q a w
theorem Wp.wp {P : Program} {c : Code} {Q : Exit → Act → World → Prop} {a : Act} {w : World} (h : Wp P c Q a w) : c.wp P Q a w := by
  cases c <;> first | exact LoopWp.wp h | exact h

/-- What code comes to. -/
def After (μ : Emb) (s : St) (w : World) (e : Ex) (s' : St) : Exit → Act → World → Prop := fun e2 a2 w2 =>
  e2 = e.toExit ∧ a2.defers = [] ∧ ∃ μ', Post μ s.heap w μ' s'.heap w2 ∧ TRel μ' s'.tmps s'.size a2.tmps

def ExOK (P : Program) (G : Nat) (ex : Code → St → Option (Ex × St)) : Prop := ∀ c s e s', ex c s = some (e, s') → WF s.heap → Ext s.heap s'.heap ∧
  ∀ μ a w, a.defers = [] → TRel μ s.tmps s.size a.tmps → GRel μ G → WRel μ s.heap w → (∀ b, s.heap.next ≤ b → b < s'.heap.next → μ b = none) → Wp P c (After μ s w e s') a w

section
variable {P : Program} {G : Nat}

theorem fresh_more {μ μ1 : Emb} {H H1 H2 : Heap} {w w1 : World} (hp : Post μ H w μ1 H1 w1) (hle : H.next ≤ H1.next) (hf : ∀ b, H.next ≤ b → b < H2.next → μ b = none) : ∀ b, H1.next ≤ b → b < H2.next → μ1 b = none := by
  intro b h1 h2
  cases hb : μ1 b with
  | none => rfl
  | some l =>
    rcases hp.dom b l hb with h | ⟨_, h⟩
    · rw [hf b (Nat.le_trans hle h1) h2] at h; cases h
    · omega

theorem After.trans {μ μ1 : Emb} {s s1 s2 : St} {w w1 : World} {e : Ex} (hp : Post μ s.heap w μ1 s1.heap w1) (h1 : s.heap.next ≤ s1.heap.next) (h2 : s1.heap.next ≤ s2.heap.next) :
    ∀ e2 a2 w2, After μ1 s1 w1 e s2 e2 a2 w2 → After μ s w e s2 e2 a2 w2 := by
  rintro e2 a2 w2 ⟨he, hd, μ2, hp2, ht⟩
  exact ⟨he, hd, μ2, hp.trans hp2 h1 h2, ht⟩

theorem region_ext {cf : CallF} (hcf : CallOK P G cf) {ops : Array Oper} {draw : Bool} {s s' : St} (hw : WF s.heap) (h : runRegion P G cf ops draw s = some s') : Ext s.heap s'.heap := by
  unfold runRegion at h
  cases draw with
  | false => exact runOps_ext hcf _ _ _ hw h
  | true =>
    simp only [cond_true] at h
    cases hq : (regOK ops && P.follows .mixedOrders) with
    | false => rw [hq] at h; cases h
    | true =>
      rw [hq] at h
      simp only [cond_true] at h
      -- by the list
      have key : ∀ (l : List Oper) (k : Nat) (fs : List (Nat × Inf)) (s s' : St), WF s.heap → runOpsD P G cf ops k fs l s = some s' → Ext s.heap s'.heap := by
        intro l
        induction l with
        | nil => intro k fs s s' _ h; simp only [runOpsD, Option.some.injEq] at h; subst h; exact Ext.refl _
        | cons o os ih =>
          intro k fs s s' hw h
          unfold runOpsD at h
          split at h
          case h_2 => cases h
          rename_i s1 f h1
          cases hq : allCompat (ancOf ops) k f fs with
          | false => rw [hq] at h; cases h
          | true =>
            rw [hq] at h
            simp only [cond_true] at h
            have e1 : Ext s.heap s1.heap := by
              unfold stepD at h1
              split at h1
              case h_2 => cases h1
              rename_i t hst
              simp only [Option.some.injEq, Prod.mk.injEq] at h1
              obtain ⟨rfl, _⟩ := h1
              have e0 := step_ext hcf (s := { s with heap := { s.heap with log := [] } }) hw hst
              obtain ⟨d, hd, hs⟩ := e0.log
              refine ⟨e0.next, ⟨below s.heap.next t.heap.log, rfl, fun b hb hn => ?_⟩, e0.far⟩
              refine hs b hb fun hm => hn (mem_below.2 ⟨?_, hb⟩)
              rw [hd, List.append_nil]; exact hm
            exact e1.trans (ih _ _ _ _ (hw.ext e1) h)
      exact key _ _ _ _ _ hw h

theorem execC_ok {rec_ : Code → St → Option (Ex × St)} {cf : CallF} (hrec : ExOK P G rec_) (hcf : CallOK P G cf) : ExOK P G (execC P G rec_ cf) := by
  intro c
  induction c with
  | skip =>
    intro s e s' h hw
    rw [execC_skip] at h
    simp only [Option.some.injEq, Prod.mk.injEq] at h
    obtain ⟨rfl, rfl⟩ := h
    exact ⟨Ext.refl _, fun μ a w hd ht hG hr _ => wp_skip ⟨rfl, hd, μ, Post.refl hr, ht⟩⟩
  | region id ops draw =>
    intro s e s' h hw
    rw [execC_region] at h
    unfold exRegion at h
    split at h
    · rename_i s1 h1
      simp only [Option.some.injEq, Prod.mk.injEq] at h
      obtain ⟨rfl, rfl⟩ := h
      refine ⟨region_ext hcf hw h1, fun μ a w hd ht hG hr hf => ?_⟩
      refine region_sound hcf h1 hw ht hG hr (fun b l hb => ?_) fun μ' w' a' hp ht' hd' => ⟨rfl, hd'.trans hd, μ', hp, ht'⟩
      rcases Nat.lt_or_ge b s.heap.next with h2 | h2
      · exact .inl h2
      · right
        rcases Nat.lt_or_ge b s1.heap.next with h3 | h3
        · rw [hf b h2 h3] at hb; cases hb
        · exact h3
    · cases h
  | seq x y ihx ihy =>
    intro s e s' h hw
    rw [execC_seq] at h
    cases hx : execC P G rec_ cf x s with
    | none => rw [hx] at h; cases h
    | some p =>
      obtain ⟨e1, s1⟩ := p
      obtain ⟨ext1, hwp1⟩ := ihx s e1 s1 hx hw
      rw [hx] at h
      cases e1 with
      | normal =>
        simp only [exSeq] at h
        obtain ⟨ext2, hwp2⟩ := ihy s1 e s' h (hw.ext ext1)
        refine ⟨ext1.trans ext2, fun μ a w hd ht hG hr hf => wp_seq ?_⟩
        refine wp_mono (hwp1 μ a w hd ht hG hr (fun b h1 h2 => hf b h1 (Nat.lt_of_lt_of_le h2 ext2.next))).wp ?_
        rintro e2 a2 w2 ⟨rfl, hd2, μ2, hp2, ht2⟩
        exact wp_mono (hwp2 μ2 a2 w2 hd2 ht2 (hG.mono hp2.ext) hp2.wrel (fresh_more hp2 ext1.next hf)).wp (After.trans hp2 ext1.next ext2.next)
      | exit i =>
        simp only [exSeq, Option.some.injEq, Prod.mk.injEq] at h
        obtain ⟨rfl, rfl⟩ := h
        refine ⟨ext1, fun μ a w hd ht hG hr hf => wp_seq ?_⟩
        refine wp_mono (hwp1 μ a w hd ht hG hr hf).wp ?_
        rintro e2 a2 w2 ⟨rfl, hrest⟩
        exact ⟨rfl, hrest⟩
      | ret =>
        simp only [exSeq, Option.some.injEq, Prod.mk.injEq] at h
        obtain ⟨rfl, rfl⟩ := h
        refine ⟨ext1, fun μ a w hd ht hG hr hf => wp_seq ?_⟩
        refine wp_mono (hwp1 μ a w hd ht hG hr hf).wp ?_
        rintro e2 a2 w2 ⟨rfl, hrest⟩
        exact ⟨rfl, hrest⟩
  | cond c x y ihx ihy =>
    intro s e s' h hw
    rw [execC_cond] at h
    cases hq : opnOK G c with
    | false => rw [hq] at h; cases h
    | true =>
      rw [hq] at h
      simp only [cond_true] at h
      unfold exCond at h
      split at h
      · rename_i t hv
        have heval : ∀ (μ : Emb) (a : Act), TRel μ s.tmps s.size a.tmps → GRel μ G → a.eval c = .bool t := by
          intro μ a ht hG
          have := eval_of hG hq (tm := s.tmps) (a := a) fun k _ => ht.2 k
          rw [hv] at this; exact this.bool_inv
        cases t with
        | true =>
          obtain ⟨ext1, hwp1⟩ := ihx s e s' h hw
          exact ⟨ext1, fun μ a w hd ht hG hr hf => wp_cond_true (heval μ a ht hG) (hwp1 μ a w hd ht hG hr hf).wp⟩
        | false =>
          obtain ⟨ext1, hwp1⟩ := ihy s e s' h hw
          exact ⟨ext1, fun μ a w hd ht hG hr hf => wp_cond_false (heval μ a ht hG) (hwp1 μ a w hd ht hG hr hf).wp⟩
      · cases h
  | block id x ih =>
    intro s e s' h hw
    rw [execC_block] at h
    cases hx : execC P G rec_ cf x s with
    | none => rw [hx] at h; cases h
    | some p =>
      obtain ⟨e1, s1⟩ := p
      obtain ⟨ext1, hwp1⟩ := ih s e1 s1 hx hw
      rw [hx] at h
      cases e1 with
      | normal =>
        simp only [exBlock, Option.some.injEq, Prod.mk.injEq] at h
        obtain ⟨rfl, rfl⟩ := h
        refine ⟨ext1, fun μ a w hd ht hG hr hf => wp_block ?_⟩
        refine wp_mono (hwp1 μ a w hd ht hG hr hf).wp ?_
        rintro e2 a2 w2 ⟨rfl, hrest⟩
        exact ⟨rfl, hrest⟩
      | exit i =>
        simp only [exBlock] at h
        cases hb : Nat.beq i id with
        | true =>
          rw [hb] at h
          simp only [cond_true, Option.some.injEq, Prod.mk.injEq] at h
          obtain ⟨rfl, rfl⟩ := h
          have hi : i = id := Nat.eq_of_beq_eq_true hb
          subst hi
          refine ⟨ext1, fun μ a w hd ht hG hr hf => wp_block ?_⟩
          refine wp_mono (hwp1 μ a w hd ht hG hr hf).wp ?_
          rintro e2 a2 w2 ⟨rfl, hrest⟩
          simp only [Ex.toExit, Exit.inBlock, if_true]
          exact ⟨rfl, hrest⟩
        | false =>
          rw [hb] at h
          simp only [cond_false, Option.some.injEq, Prod.mk.injEq] at h
          obtain ⟨rfl, rfl⟩ := h
          have hi : ¬ i = id := fun e => by subst e; rw [Nat.beq_refl] at hb; cases hb
          refine ⟨ext1, fun μ a w hd ht hG hr hf => wp_block ?_⟩
          refine wp_mono (hwp1 μ a w hd ht hG hr hf).wp ?_
          rintro e2 a2 w2 ⟨rfl, hrest⟩
          simp only [Ex.toExit, Exit.inBlock, hi, if_false]
          exact ⟨rfl, hrest⟩
      | ret =>
        simp only [exBlock, Option.some.injEq, Prod.mk.injEq] at h
        obtain ⟨rfl, rfl⟩ := h
        refine ⟨ext1, fun μ a w hd ht hG hr hf => wp_block ?_⟩
        refine wp_mono (hwp1 μ a w hd ht hG hr hf).wp ?_
        rintro e2 a2 w2 ⟨rfl, hrest⟩
        exact ⟨rfl, hrest⟩
  | loop x ih =>
    intro s e s' h hw
    rw [execC_loop] at h
    cases hx : execC P G rec_ cf x s with
    | none => rw [hx] at h; cases h
    | some p =>
      obtain ⟨e1, s1⟩ := p
      obtain ⟨ext1, hwp1⟩ := ih s e1 s1 hx hw
      rw [hx] at h
      cases e1 with
      | normal =>
        simp only [exSeq] at h
        obtain ⟨ext2, hwp2⟩ := hrec (.loop x) s1 e s' h (hw.ext ext1)
        refine ⟨ext1.trans ext2, fun μ a w hd ht hG hr hf => LoopWp.round ?_⟩
        refine wp_mono (hwp1 μ a w hd ht hG hr (fun b h1 h2 => hf b h1 (Nat.lt_of_lt_of_le h2 ext2.next))).wp ?_
        rintro e2 a2 w2 ⟨rfl, hd2, μ2, hp2, ht2⟩
        have hl : LoopWp P x (After μ2 s1 w2 e s') a2 w2 := hwp2 μ2 a2 w2 hd2 ht2 (hG.mono hp2.ext) hp2.wrel (fresh_more hp2 ext1.next hf)
        intro b k cs
        obtain ⟨e3, a3, w3, q, r⟩ := hl b k cs
        exact ⟨e3, a3, w3, After.trans hp2 ext1.next ext2.next _ _ _ q, r⟩
      | exit i =>
        simp only [exSeq, Option.some.injEq, Prod.mk.injEq] at h
        obtain ⟨rfl, rfl⟩ := h
        refine ⟨ext1, fun μ a w hd ht hG hr hf => LoopWp.round ?_⟩
        refine wp_mono (hwp1 μ a w hd ht hG hr hf).wp ?_
        rintro e2 a2 w2 ⟨rfl, hrest⟩
        exact ⟨rfl, hrest⟩
      | ret =>
        simp only [exSeq, Option.some.injEq, Prod.mk.injEq] at h
        obtain ⟨rfl, rfl⟩ := h
        refine ⟨ext1, fun μ a w hd ht hG hr hf => LoopWp.round ?_⟩
        refine wp_mono (hwp1 μ a w hd ht hG hr hf).wp ?_
        rintro e2 a2 w2 ⟨rfl, hrest⟩
        exact ⟨rfl, hrest⟩
  | exit id =>
    intro s e s' h hw
    rw [execC_exit] at h
    simp only [Option.some.injEq, Prod.mk.injEq] at h
    obtain ⟨rfl, rfl⟩ := h
    exact ⟨Ext.refl _, fun μ a w hd ht hG hr _ => wp_exit ⟨rfl, hd, μ, Post.refl hr, ht⟩⟩
  | ret =>
    intro s e s' h hw
    rw [execC_ret] at h
    simp only [Option.some.injEq, Prod.mk.injEq] at h
    obtain ⟨rfl, rfl⟩ := h
    exact ⟨Ext.refl _, fun μ a w hd ht hG hr _ => wp_ret ⟨rfl, hd, μ, Post.refl hr, ht⟩⟩
  | rangeFunc f ps x y _ _ => intro s e s' h; cases h
  | scope x _ => intro s e s' h; cases h
  | label l => intro s e s' h; cases h
  | goto l => intro s e s' h; cases h
  | refuse m => intro s e s' h; cases h

/-! Calls. -/
theorem argTmps_get : ∀ (args : List Value) (i : Nat) (t : Tr Value) (k : Nat), lget (argTmps i args t) k = if i ≤ k ∧ k < i + args.length then args.getD (k - i) undef else lget t k
  | [], i, t, k => by rw [if_neg (by simp only [List.length_nil]; omega)]; rfl
  | v :: l, i, t, k => by
    simp only [argTmps]
    rw [argTmps_get l (i + 1) _ k]
    by_cases h1 : i + 1 ≤ k ∧ k < i + 1 + l.length
    · rw [if_pos h1, if_pos (by simp only [List.length_cons]; omega), show k - i = (k - (i + 1)) + 1 by omega]; rfl
    · rw [if_neg h1, lget_lset]
      by_cases h2 : i = k
      · subst h2; rw [if_pos rfl, if_pos (by simp only [List.length_cons]; omega)]; simp
      · rw [if_neg h2, if_neg (by simp only [List.length_cons]; omega)]

theorem args_rel {μ : Emb} {args : List Value} {cargs : Array Value} (h : LRel μ args cargs.toList) (n : Nat) :
    TRel μ (argTmps 0 args .nil) (Nat.max args.length n) (cargs ++ Array.replicate (n - cargs.size) undef) := by
  have hl : args.length = cargs.size := by rw [h.1]; simp
  refine ⟨by simp only [Array.size_append, Array.size_replicate]; rw [hl]; show _ = max _ _; omega, fun i => ?_⟩
  rw [argTmps_get]
  simp only [Nat.zero_le, true_and, Nat.zero_add, Nat.sub_zero, lget_nil, Array.getD_eq_getD_getElem?, Array.getElem?_append]
  by_cases hi : i < args.length
  · rw [if_pos hi, if_pos (by omega)]
    have h1 : args[i]? = some args[i] := List.getElem?_eq_getElem hi
    obtain ⟨v', hv', hr⟩ := h.get h1
    have : cargs[i]? = some v' := by simpa using hv'
    rw [this, List.getD_eq_getElem?_getD, h1]; exact hr
  · rw [if_neg hi, if_neg (by omega)]
    rw [Array.getElem?_replicate]
    split
    · exact VRel.undef
    · exact VRel.undef

theorem results_run {μ : Emb} {s : St} {a : Array Value} {w : World} (ht : TRel μ s.tmps s.size a) (hw : WRel μ s.heap w) : ∀ (rs : List ResultVar) (l : List Value), resultsL P s rs = some l →
    ∃ l', (rs.mapM (m := Sem) fun | .tmp t => Pure.pure (a.getD t undef) | .cell x t => do loadVar t (← asAddr (a.getD x undef))).run P w = .ok l' w ∧ LRel μ l l'
  | [], l, h => by
    simp only [resultsL, Option.some.injEq] at h; subst h
    exact ⟨[], by simp, .nil⟩
  | .tmp t :: rs, l, h => by
    unfold resultsL at h
    split at h
    · rename_i l1 h1
      injection h with h; subst h
      obtain ⟨l', hrun, hr⟩ := results_run ht hw rs l1 h1
      exact ⟨a.getD t undef :: l', by simp only [List.mapM_cons, Sem.run_bind, Sem.run_pure, Result.andThen_ok, hrun], .cons (ht.2 t) hr⟩
    · cases h
  | .cell x t :: rs, l, h => by
    unfold resultsL at h
    split at h
    · rename_i p hp
      split at h
      · rename_i v l1 hv h1
        injection h with h; subst h
        obtain ⟨l', hrun, hr⟩ := results_run ht hw rs l1 h1
        have hx := ht.2 x
        rw [hp] at hx
        obtain ⟨b, o, sp⟩ := p
        have hsp : sp = none := hx.ptr_some.1
        subst hsp
        obtain ⟨l0, hμ, hx'⟩ := hx.ptr_inv
        obtain ⟨v', hlv, hvr⟩ := loadV_sound (P := P) hw hμ hv
        exact ⟨v' :: l', by simp only [List.mapM_cons, Sem.run_bind, hx', show (asAddr (Value.pointer (some ⟨l0.c, l0.sh + o, none⟩))).run P w = .ok ⟨l0.c, l0.sh + o, none⟩ w from rfl, Sem.run_pure, Result.andThen_ok, hlv, hrun], .cons hvr hr⟩
      · cases h
    · cases h

theorem result_rel {μ : Emb} {l l' : List Value} (h : LRel μ l l') : VRel μ (resultOf l) (if h : l'.toArray.size = 1 then l'.toArray[0] else .tuple l'.toArray) := by
  match l, l', h with
  | [], l', h =>
    have := h.nil_left
    subst this
    exact .tuple _ _ rfl (fun i v v' h => by simp at h)
  | [v], l', h =>
    obtain ⟨v', t, rfl, hv, ht⟩ := h.cons_left
    have := ht.nil_left
    subst this
    exact hv
  | v :: u :: r, l', h =>
    obtain ⟨v', t, rfl, hv, ht⟩ := h.cons_left
    obtain ⟨u', t2, rfl, hu, ht2⟩ := ht.cons_left
    simp only [List.size_toArray, List.length_cons, show ¬ (t2.length + 1 + 1 = 1) by omega, dite_false]
    have := LRel.cons hv (LRel.cons hu ht2)
    exact .tuple _ _ (by simpa [resultOf] using this.1) (by simpa [resultOf] using this.2)

theorem results_sound {μ : Emb} {s : St} {fn : Func} {a : Array Value} {w : World} (ht : TRel μ s.tmps s.size a) (hw : WRel μ s.heap w) {l : List Value} (h : resultsL P s fn.results.toList = some l) :
    ∃ v', (results fn a).run P w = .ok v' w ∧ VRel μ (resultOf l) v' := by
  obtain ⟨l', hrun, hr⟩ := results_run (P := P) ht hw _ l h
  refine ⟨_, ?_, result_rel hr⟩
  unfold results
  rw [Array.mapM_eq_mapM_toList]
  simp only [Sem.run_bind, Sem.run_map]
  have e : ∀ (r : Result (List Value)), r = .ok l' w → ((r.andThen fun a w' => (.ok a.toArray w' : Result (Array Value))).andThen fun vs w' => ((Pure.pure (if h : vs.size = 1 then vs[0] else Value.tuple vs) : Sem Value).run P w')) =
      .ok (if h : l'.toArray.size = 1 then l'.toArray[0] else .tuple l'.toArray) w := by
    intro r hr; subst hr; rfl
  exact e _ hrun

theorem callC_ok {ex : Code → St → Option (Ex × St)} (hex : ExOK P G ex) : CallOK P G (callC P ex) := by
  intro f args H v H' h hwf
  unfold callC at h
  split at h
  case h_2 => cases h
  rename_i fn hfn
  split at h
  case h_2 => cases h
  rename_i c hc
  have fin : ∀ e s, (e = Ex.normal ∨ e = Ex.ret) → ex c { tmps := argTmps 0 args .nil, size := Nat.max args.length fn.ntmps, heap := H } = some (e, s) →
      (match resultsL P s fn.results.toList with | some l => some (resultOf l, s.heap) | none => none) = some (v, H') → Ext H H' ∧
      ∀ μ w (cargs : Array Value), LRel μ args cargs.toList → GRel μ G → WRel μ H w → (∀ b, H.next ≤ b → b < H'.next → μ b = none) →
        Calls P f cargs w fun e w' => ∃ μ' v', e = .returned v' ∧ VRel μ' v v' ∧ Post μ H w μ' H' w' := by
    intro e s he hx hres
    split at hres
    · rename_i l hl
      simp only [Option.some.injEq, Prod.mk.injEq] at hres
      obtain ⟨rfl, rfl⟩ := hres
      obtain ⟨ext, hwp⟩ := hex c _ e s hx hwf
      refine ⟨ext, fun μ w cargs ha hG hw hf => ?_⟩
      refine calls_of_wp hfn hc ?_
      refine wp_mono (hwp μ { tmps := cargs ++ Array.replicate (fn.ntmps - cargs.size) undef, defers := [] } w rfl (args_rel ha fn.ntmps) hG hw hf).wp ?_
      rintro e2 a2 w2 ⟨rfl, hd, μ', hp, ht⟩
      obtain ⟨v', hrun, hr⟩ := results_sound (P := P) (fn := fn) ht hp.wrel hl
      rcases he with rfl | rfl
      · exact ⟨hd, v', hrun, μ', v', rfl, hr, hp⟩
      · exact ⟨hd, v', hrun, μ', v', rfl, hr, hp⟩
    · cases hres
  split at h
  · rename_i s hx; exact fin .normal s (.inl rfl) hx h
  · rename_i s hx; exact fin .ret s (.inr rfl) hx h
  · cases h

/-! What is known of calls beforehand. -/
def KnownOK (P : Program) (K : Known) : Prop := ∀ f args v, K f args = some v → args.all noA2 = true ∧ noA2 v = true ∧ ∀ (cargs : Array Value) (w : World), cargs.toList = args →
  Calls P f cargs w fun e w' => e = .returned v ∧ Below w.heap.size w w'

theorem LRel.eq2 {μ : Emb} {l l' : List Value} (h : LRel μ l l') (h0 : l.all noA2 = true) : l' = l := by
  induction l generalizing l' with
  | nil => exact h.nil_left
  | cons v l ih =>
    obtain ⟨v', t', rfl, hv, ht⟩ := h.cons_left
    simp only [List.all_cons, Bool.and_eq_true] at h0
    rw [hv.eq2 h0.1, ih ht h0.2]
theorem LRel.refl2 {μ : Emb} {l : List Value} (h : l.all noA2 = true) : LRel μ l l := by
  refine ⟨rfl, fun i v v' h1 h2 => ?_⟩
  rw [h1] at h2; injection h2 with h2; subst h2
  exact VRel.refl2 (List.all_eq_true.1 h v (List.mem_of_getElem? h1))

theorem callK_ok {K : Known} {cf : CallF} (hK : KnownOK P K) (hcf : CallOK P G cf) : CallOK P G (callK K cf) := by
  intro f args H v H' h hwf
  unfold callK at h
  split at h
  · rename_i u hu
    simp only [Option.some.injEq, Prod.mk.injEq] at h
    obtain ⟨rfl, rfl⟩ := h
    obtain ⟨h1, h2, h3⟩ := hK f args u hu
    refine ⟨Ext.refl _, fun μ w cargs ha hG hw hf => ?_⟩
    refine (h3 cargs w (ha.eq2 h1)).mono ?_
    rintro e w' ⟨rfl, hb⟩
    refine ⟨μ, u, rfl, VRel.refl2 h2, ⟨fun _ _ h => h, fun _ _ h => .inl h, hb.size, hb.os, hb.tape, hb.output, fun c hc _ => hb.block c hc, fun b l o h4 h5 h6 => .inr ⟨b, l, o, h4, h5, h6, id, rfl⟩, ⟨fun b l o h4 h5 => ?_, hw.inj⟩⟩⟩
    have hr := hw.obj b l o h4 h5
    exact hr.keep (fun _ _ h => h) hb.size (fun hlv => hb.block l.c (hr.lt hlv))
  · exact hcf f args H v H' h hwf

theorem exec_ok {K : Known} (hK : KnownOK P K) : ∀ n, ExOK P G (exec P G K n)
  | 0 => fun c s e s' h => by cases h
  | n + 1 => execC_ok (exec_ok hK n) (callK_ok hK (callC_ok (exec_ok hK n)))
theorem call_ok {K : Known} (hK : KnownOK P K) (n : Nat) : CallOK P G (call P G K n) := callK_ok hK (callC_ok (exec_ok hK n))

theorem none_ok : KnownOK P noneKnown := fun f args v h => by cases h

/-- A call whose arguments and result hold no address, evaluated over the empty heap. -/
theorem calls_of_eval {K : Known} (hK : KnownOK P K) {n : Nat} {f : FuncId} {args : List Value} {v : Value} {H' : Heap} (ha : args.all noA2 = true) (hv : noA2 v = true)
    (h : call P 0 K n f args Heap.empty = some (v, H')) (cargs : Array Value) (w : World) (hc : cargs.toList = args) :
    Calls P f cargs w fun e w' => e = .returned v ∧ Below w.heap.size w w' := by
  have hwf : WF Heap.empty := fun b _ => rfl
  obtain ⟨_, hcall⟩ := call_ok (G := 0) hK n f args Heap.empty v H' h hwf
  have hrel : WRel (fun _ => none) Heap.empty w := ⟨fun b l o hb => (by cases hb), fun b1 b2 l1 l2 o1 o2 _ hb => (by cases hb)⟩
  refine (hcall (fun _ => none) w cargs (by rw [hc]; exact LRel.refl2 ha) (fun g hg => by omega) hrel (fun _ _ _ => rfl)).mono ?_
  rintro e w' ⟨μ', v', rfl, hr, hp⟩
  rw [hr.eq2 hv]
  refine ⟨rfl, hp.os, hp.tape, hp.out, hp.grow, fun k hk => hp.keep k hk fun b l o hb => by cases hb⟩
end
end Go.R
