/-
  A region that draws its order: the step, and the whole.
  No condition beyond those that each statement names.
-/
import Derived.Test.YtcakpkdeojhacaaRxRegion2
namespace Go.R
section
variable {P : Program} {G : Nat} {cf : CallF} {ops : Array Oper} {st : Nat → St} {vl : Nat → Value} {nf : Nat → Inf}
variable {μ0 μ : Emb} {w0 w : World} {d0 : List Deferred} {S : Nat → Bool} {a : Act} {i : Nat} {o : Oper}

/-- An operation that may go next. -/
structure Ready (ops : Array Oper) (S : Nat → Bool) (i : Nat) (o : Oper) : Prop where
  at_ : ops[i]? = some o
  new : S i = false
  edges : ∀ e ∈ o.after.toList, Region.binds .any e = true → S e.on = true

theorem Ready.lt (R : Ready ops S i o) : i < ops.size := (Array.getElem?_eq_some_iff.1 R.at_).1
theorem Ready.dc (R : Ready ops S i o) (h : DC ops S) : DC ops (addS S i) := by
  intro k x hk hs e he hb
  by_cases hki : k = i
  · subst hki
    rw [R.at_] at hk; injection hk with hk; subst hk
    have := R.edges e he hb
    unfold addS; rw [this]; simp
  · rw [addS_ne S hki] at hs
    have := h k x hk hs e he hb
    unfold addS; rw [this]; simp
/-- What is ordered ahead of it has gone. -/
theorem Ready.ahead (R : Ready ops S i o) (h : DC ops S) {k : Nat} (hk : k ≠ i) (ho : ordered (ancOf ops) k i = true) : S k = true := by
  have := (R.dc h).anc i (addS_same S i) ho
  rwa [addS_ne S hk] at this
/-- What is ordered behind it has not. -/
theorem Ready.behind (R : Ready ops S i o) (h : DC ops S) {k : Nat} (ho : ordered (ancOf ops) i k = true) : S k = false := by
  cases hs : S k with
  | false => rfl
  | true => have := h.anc k hs ho; rw [R.new] at this; cases this

theorem Ready.iff_ (R : Ready ops S i o) (h : DC ops S) {k : Nat} (h1 : k < i → ordered (ancOf ops) k i = true) (h2 : i < k → ordered (ancOf ops) i k = true) : S k = true ↔ k < i := by
  rcases Nat.lt_trichotomy k i with hlt | rfl | hgt
  · exact ⟨fun _ => hlt, fun _ => R.ahead h (by omega) (h1 hlt)⟩
  · rw [R.new]; simp
  · rw [R.behind h (h2 hgt)]; simp; omega
theorem Ready.iffAdd (R : Ready ops S i o) (h : DC ops S) {k : Nat} (h1 : k < i → ordered (ancOf ops) k i = true) (h2 : i < k → ordered (ancOf ops) i k = true) : addS S i k = true ↔ k < i + 1 := by
  by_cases hk : k = i
  · subst hk; rw [addS_same]; simp
  · rw [addS_ne S hk, R.iff_ h h1 h2]; omega

/-- Operations that share a slot are ordered. -/
theorem share (T : Trace P G cf ops st vl nf) (ho : ops[i]? = some o) {t : Tmp} (ht : t ∈ o.looksAt ops ∨ o.dst = some t) {k : Nat} (hd : dstOf ops k = some t) :
    (k < i → ordered (ancOf ops) k i = true) ∧ (i < k → ordered (ancOf ops) i k = true) := by
  unfold dstOf at hd
  cases hx : ops[k]? with
  | none => rw [hx] at hd; simp at hd
  | some x =>
    rw [hx] at hd
    simp only [Option.bind_some] at hd
    constructor
    · intro hlt
      rcases T.reg.pair k i x o hlt hx ho with h | h
      · exact h
      · exfalso
        obtain ⟨p1, p2, p3⟩ := Oper.apart_spec h
        rcases ht with ht | ht
        · exact p1 t hd ht
        · exact p2 t hd ht
    · intro hlt
      rcases T.reg.pair i k o x hlt ho hx with h | h
      · exact h
      · exfalso
        obtain ⟨p1, p2, p3⟩ := Oper.apart_spec h
        rcases ht with ht | ht
        · exact p3 t hd ht
        · exact p2 t ht hd

/-- A slot that the operation looks at holds what it held in the text's order. -/
theorem slot_here (T : Trace P G cf ops st vl nf) (I : Inv ops st vl μ0 w0 d0 S μ a w) (R : Ready ops S i o) {t : Tmp} (ht : t ∈ o.looksAt ops) :
    VRel μ (lget (st i).tmps t) (a.tmps.getD t undef) := by
  have := I.tm t
  rw [tv_eq st vl ops (i := i) (fun k => T.tm k t) ops.size (fun k _ hd => R.iff_ I.dc (share T R.at_ (.inl ht) hd).1 (share T R.at_ (.inl ht) hd).2)] at this
  rwa [Nat.min_eq_right (Nat.le_of_lt R.lt)] at this

theorem operand_here (T : Trace P G cf ops st vl nf) (I : Inv ops st vl μ0 w0 d0 S μ a w) (R : Ready ops S i o) (hG : GRel μ G) (hall : o.op.operands.toList.all (opnOK G) = true) :
    ∀ x ∈ o.op.operands, VRel μ (aeval (st i).tmps x) (a.eval x) := by
  intro x hx
  refine eval_of hG (List.all_eq_true.1 hall x (by simpa using hx)) fun t ht => ?_
  subst ht
  refine slot_here T I R ?_
  unfold Oper.looksAt
  rw [List.mem_append]
  left
  rw [List.mem_filterMap]
  exact ⟨.tmp t, by simpa using hx, rfl⟩

theorem wanted_here (T : Trace P G cf ops st vl nf) (I : Inv ops st vl μ0 w0 d0 S μ a w) (R : Ready ops S i o) : wantedL ops o (st i).tmps = Region.wanted o (yielded ops a.tmps) := by
  refine wanted_eq (μ := μ) fun j w hg d hd => slot_here T I R ?_
  unfold Oper.looksAt
  rw [List.mem_append]
  right
  rw [hg]
  simp only
  rw [hd]; simp

theorem between (T : Trace P G cf ops st vl nf) {j k b : Nat} (h1 : (st j).heap.next ≤ b) (h2 : b < (st (j + 1)).heap.next) (h3 : (st k).heap.next ≤ b) (h4 : b < (st (k + 1)).heap.next) : j = k := by
  rcases Nat.lt_trichotomy j k with h | h | h
  · have := T.monoL (show j + 1 ≤ k from h); omega
  · exact h
  · have := T.monoL (show k + 1 ≤ j from h); omega

/-- A new number is no one's yet. -/
theorem fresh_here (T : Trace P G cf ops st vl nf) (I : Inv ops st vl μ0 w0 d0 S μ a w) (R : Ready ops S i o) (b : Nat) (h1 : (st i).heap.next ≤ b) (h2 : b < (st (i + 1)).heap.next) : μ b = none := by
  cases hb : μ b with
  | none => rfl
  | some l =>
    exfalso
    rcases I.dom b l hb with h | ⟨k, _, hs, h3, h4⟩ | h
    · have := T.monoL (Nat.zero_le i); omega
    · have := between T h1 h2 h3 h4
      subst this
      rw [R.new] at hs; cases hs
    · have := T.monoL (show i + 1 ≤ ops.size from R.lt); omega

theorem cont_here (T : Trace P G cf ops st vl nf) (I : Inv ops st vl μ0 w0 d0 S μ a w) (R : Ready ops S i o) {b : Nat} {l : Loc} (hb : μ b = some l) (hlt : b < (st i).heap.next)
    (hw : ∀ k w', nf k = .x w' → b ∈ w' → k < ops.size → (k < i → ordered (ancOf ops) k i = true) ∧ (i < k → ordered (ancOf ops) i k = true)) : cont st S ops.size b = (st i).heap.get b := by
  rw [cont_eq st (i := i) ops.size, Nat.min_eq_right (Nat.le_of_lt R.lt)]
  intro k hk hc
  obtain ⟨_, ⟨h1, h2⟩ | ⟨w', h1, h2, h3⟩⟩ := T.chg hc
  · -- made there
    have hki : k < i := by
      rcases Nat.lt_or_ge k i with h | h
      · exact h
      · have := T.monoL h; omega
    refine ⟨fun _ => hki, fun _ => ?_⟩
    rcases I.dom b l hb with h | ⟨k', _, hs, h4, h5⟩ | h
    · have := T.monoL (Nat.zero_le k); omega
    · have := between T h1 h2 h4 h5
      subst this; exact hs
    · have := T.monoL (Nat.le_of_lt R.lt); omega
  · exact R.iff_ I.dc (hw k w' h1 h2 hk).1 (hw k w' h1 h2 hk).2

theorem cont_after (T : Trace P G cf ops st vl nf) (I : Inv ops st vl μ0 w0 d0 S μ a w) (R : Ready ops S i o) {b : Nat} (hb : b < (st i).heap.next → ∃ l, μ b = some l) (hlt : b < (st (i + 1)).heap.next)
    (hw : ∀ k w', nf k = .x w' → b ∈ w' → k < ops.size → (k < i → ordered (ancOf ops) k i = true) ∧ (i < k → ordered (ancOf ops) i k = true)) : cont st (addS S i) ops.size b = (st (i + 1)).heap.get b := by
  rw [cont_eq st (i := i + 1) ops.size, Nat.min_eq_right R.lt]
  intro k hk hc
  by_cases hki : k = i
  · subst hki; rw [addS_same]; simp
  · obtain ⟨_, ⟨h1, h2⟩ | ⟨w', h1, h2, h3⟩⟩ := T.chg hc
    · have hk2 : k < i := by
        rcases Nat.lt_or_ge k i with h | h
        · exact h
        · have := T.monoL (show i + 1 ≤ k by omega); omega
      rw [addS_ne S hki]
      refine ⟨fun _ => by omega, fun _ => ?_⟩
      have hbi : b < (st i).heap.next := by have := T.monoL (show k + 1 ≤ i from hk2); omega
      obtain ⟨l, hl⟩ := hb hbi
      rcases I.dom b l hl with h | ⟨k', _, hs, h4, h5⟩ | h
      · have := T.monoL (Nat.zero_le k); omega
      · have := between T h1 h2 h4 h5
        subst this; exact hs
      · have := T.monoL (Nat.le_of_lt R.lt); omega
    · exact R.iffAdd I.dc (hw k w' h1 h2 hk).1 (hw k w' h1 h2 hk).2

theorem cont_same (T : Trace P G cf ops st vl nf) {b : Nat} (h : ¬ chg st i b) : cont st (addS S i) ops.size b = cont st S ops.size b := by
  refine (cont_congr st ops.size fun k _ hc => ?_)
  exact addS_ne S (fun e => by subst e; exact h hc)

theorem memB_iff {b : Nat} : ∀ {l : List Nat}, memB b l = true ↔ b ∈ l
  | [] => by simp [memB]
  | c :: l => by
    unfold memB
    rw [Bool.or_eq_true, memB_iff (l := l), List.mem_cons]
    constructor
    · rintro (h | h)
      · exact .inl (Nat.eq_of_beq_eq_true h)
      · exact .inr h
    · rintro (rfl | h)
      · exact .inl (Nat.beq_refl b)
      · exact .inr h

/-- The slots behind one operation more. -/
theorem slots_next (T : Trace P G cf ops st vl nf) (I : Inv ops st vl μ0 w0 d0 S μ a w) (R : Ready ops S i o) :
    (∀ t, o.dst = some t → tv st vl ops (addS S i) ops.size t = vl i) ∧ (∀ t, o.dst ≠ some t → tv st vl ops (addS S i) ops.size t = tv st vl ops S ops.size t) := by
  constructor
  · intro t ht
    rw [tv_eq st vl ops (i := i + 1) (fun k => T.tm k t) ops.size (fun k _ hd => R.iffAdd I.dc (share T R.at_ (.inr ht) hd).1 (share T R.at_ (.inr ht) hd).2), Nat.min_eq_right R.lt, T.tm]
    rw [if_pos (by unfold dstOf; rw [R.at_]; exact ht)]
  · intro t ht
    refine tv_congr st vl ops ops.size fun k _ hd => addS_ne S ?_
    intro e
    subst e
    unfold dstOf at hd
    rw [R.at_] at hd
    exact ht hd

/-- An operation that changes no memory. -/
theorem next_still (T : Trace P G cf ops st vl nf) (I : Inv ops st vl μ0 w0 d0 S μ a w) (R : Ready ops S i o) (hsame : ∀ b, (st (i + 1)).heap.get b = (st i).heap.get b) {v' : Value} (hv : VRel μ (vl i) v') :
    Inv ops st vl μ0 w0 d0 (addS S i) μ (a.put o.dst v') w := by
  obtain ⟨t1, t2⟩ := slots_next T I R
  refine Inv.next (H := bare (st i).heap.next) (Hn := bare (st i).heap.next) I R.lt R.at_ (Post.refl (bare_rel μ _ w)) hv (fun k => T.mono k) (Nat.le_refl _) (T.mono i)
    (fun b l x _ h => by rw [bare_get] at h; cases h) (fun b l x _ h => by rw [bare_get] at h; cases h) (fun b l x hb _ hc => ⟨hb, rfl, ?_⟩) (R.dc I.dc) (fun d hd => ?_) t1 t2
  · rw [cont_same T (fun e => e (hsame b))] at hc; exact hc
  · have := (T.fact i o R.at_).dlt d hd
    rwa [T.sizeL i] at this

/-- THE STEP: any operation that may go next goes, and all is as it should be. -/
theorem inv_step (hcf : CallOK P G cf) (T : Trace P G cf ops st vl nf) (I : Inv ops st vl μ0 w0 d0 S μ a w) (hG : GRel μ0 G) (R : Ready ops S i o) {K : Act → World → Prop} {Q : Exit → Act → World → Prop}
    (hK : ∀ μ' a' w', Inv ops st vl μ0 w0 d0 (addS S i) μ' a' w' → K a' w') : wpOp P ops Q i K a w := by
  have hGμ : GRel μ G := hG.mono I.ext0
  have F := T.fact i o R.at_
  have hwant := wanted_here T I R
  unfold wpOp
  rw [R.at_]
  simp only
  rcases F.how with ⟨hq, hv, hf, hn, hs⟩ | ⟨hq, hall, H1, H2, hg1, hn1, he, hg2, hn2, hkind⟩
  · rw [hwant] at hq
    rw [hq]
    simp only [Bool.false_eq_true, if_false]
    exact hK μ _ w (next_still T I R hs (by rw [hv]; exact VRel.undef))
  · rw [hwant] at hq
    rw [hq]
    simp only [if_true]
    left
    have hρ := operand_here T I R hGμ hall
    have hwfi : WF (st i).heap := T.wf i
    rcases hkind with ⟨hf, hk⟩ | ⟨hf, hk⟩ | ⟨b, hf, hrd⟩ | ⟨wr, hf, hwl, hsame⟩
    · -- a value
      have haop : ∃ u, aop P (aeval (st i).tmps) o H1 = some (.val u, H1) ∧ u = vl i ∧ H2 = H1 := by
        unfold evalOp at he
        split at he
        · rename_i u h1 haop
          simp only [Option.some.injEq, Prod.mk.injEq] at he
          have := value_heap hk haop
          subst this
          exact ⟨u, haop, he.1, he.2.symm⟩
        · rename_i h1 haop; obtain ⟨_, hx⟩ := value_val hk haop; cases hx
        · rename_i f args h1 haop; obtain ⟨_, hx⟩ := value_val hk haop; cases hx
        · cases he
      obtain ⟨u, haop, rfl, rfl⟩ := haop
      obtain ⟨_, v, v', hvv, hrun, hr⟩ := value_sound hk hρ haop
      injection hvv with hvv
      subst hvv
      unfold Oper.wp
      rw [hrun w, Oper.upon_value]
      exact hK μ _ w (next_still T I R (fun b => by rw [hg2 b, hg1 b]) hr)
    · -- a new block
      unfold evalOp at he
      split at he
      case h_2 => rename_i h1 haop; obtain ⟨_, _, hx, _⟩ := new_indep hk haop; cases hx
      case h_3 => rename_i f args h1 haop; obtain ⟨_, _, hx, _⟩ := new_indep hk haop; cases hx
      case h_4 => cases he
      rename_i u h1 haop
      simp only [Option.some.injEq, Prod.mk.injEq] at he
      obtain ⟨rfl, rfl⟩ := he
      obtain ⟨u, obj, hu, hpush, hind⟩ := new_indep hk haop
      injection hu with hu
      subst hu hpush
      have hni : (st (i + 1)).heap.next = (st i).heap.next + 1 := by rw [hn2, Heap.next_push, hn1]
      have hb0 := hind (bare (st i).heap.next) (by rw [hn1]; rfl)
      obtain ⟨n, w', μ', hrun, hp, hr⟩ := aop_sound hρ (bare_rel μ _ w) (fun b hb1 hb2 => fresh_here T I R b hb1 (by rw [hni]; exact hb2)) hb0
      unfold Oper.wp
      rw [hrun]
      cases n with
      | value v' =>
        rw [Oper.upon_value]
        obtain ⟨t1, t2⟩ := slots_next T I R
        have hw : ∀ k w', nf k = .x w' → (st i).heap.next ∈ w' → k < ops.size → (k < i → ordered (ancOf ops) k i = true) ∧ (i < k → ordered (ancOf ops) i k = true) := by
          intro k w' hx hm hks
          have hlt : (st i).heap.next < (st k).heap.next := by
            have Fk := T.fact k ops[k] (Array.getElem?_eq_getElem hks)
            rcases Fk.how with ⟨_, _, hff, _⟩ | ⟨_, _, _, _, _, _, _, _, _, hkk⟩
            · rw [hx] at hff; cases hff
            · rcases hkk with ⟨hff, _⟩ | ⟨hff, _⟩ | ⟨_, hff, _⟩ | ⟨w2, hff, hl2, _⟩
              · rw [hx] at hff; cases hff
              · rw [hx] at hff; cases hff
              · rw [hx] at hff; cases hff
              · rw [hx] at hff; injection hff with hff; subst hff; exact hl2 _ hm
          constructor
          · intro hki
            have := T.monoL (Nat.le_of_lt hki); omega
          · intro hik
            rcases T.comp i k hik hks with h | h
            · exact h
            · rw [hf, hx] at h
              simp only [compat] at h
              rw [memB_iff.2 hm] at h; cases h
        have hnew : cont st (addS S i) ops.size (st i).heap.next = some obj := by
          rw [cont_after T I R (fun h => absurd h (Nat.lt_irrefl _)) (by rw [hni]; omega) hw, hg2, ← hn1, Heap.get_push_same]
        have hbare : ∀ b x, ((bare (st i).heap.next).push obj).get b = some x → b = (st i).heap.next ∧ x = obj := by
          intro b x hx
          by_cases hbn : (bare (st i).heap.next).next = b
          · subst hbn
            rw [Heap.get_push_same] at hx; injection hx with hx
            exact ⟨rfl, hx.symm⟩
          · rw [Heap.get_push_ne _ _ hbn, bare_get] at hx; cases hx
        refine hK μ' _ w' (Inv.next (H := bare (st i).heap.next) (Hn := (bare (st i).heap.next).push obj) I R.lt R.at_ hp hr (fun k => T.mono k) (Nat.le_refl _) (by rw [hni]; exact Nat.le_refl _)
          (fun b l x _ h => by rw [bare_get] at h; cases h) (fun b l x _ h => ?_) (fun b l x hb hg hc => ?_) (R.dc I.dc) (fun d hd => ?_) t1 t2)
        · obtain ⟨rfl, rfl⟩ := hbare b x h; exact hnew
        · have hbn : b ≠ (st i).heap.next := by
            rintro rfl
            have : ((bare (st i).heap.next).push obj).get (st i).heap.next = some obj := Heap.get_push_same (bare (st i).heap.next) obj
            rw [this] at hg; cases hg
          have hnc : ¬ chg st i b := by
            intro hc'
            apply hc'
            rw [hg2, Heap.get_push_ne _ _ (by rw [hn1]; exact Ne.symm hbn), hg1]
          rw [cont_same T hnc] at hc
          rcases hp.dom b l hb with h1 | ⟨h1, h2⟩
          · exact ⟨h1, rfl, hc⟩
          · exfalso
            have h1' : (st i).heap.next ≤ b := h1
            have h2' : b < (st i).heap.next + 1 := h2
            omega
        · have := F.dlt d hd
          rwa [T.sizeL i] at this
      | _ => exact hr.elim
    · -- a load, or a part of a slice
      unfold evalOp at he
      split at he
      case h_2 => rename_i h1 haop; obtain ⟨_, _, hx, _⟩ := reads_spec hrd haop; cases hx
      case h_3 => rename_i f args h1 haop; obtain ⟨_, _, hx, _⟩ := reads_spec hrd haop; cases hx
      case h_4 => cases he
      · rename_i u h1 haop
        simp only [Option.some.injEq, Prod.mk.injEq] at he
        obtain ⟨rfl, rfl⟩ := he
        obtain ⟨u, obj, hu, rfl, hobj, hall2⟩ := reads_spec hrd haop
        injection hu with hu
        subst hu
        obtain ⟨l, hμ⟩ := reads_loc hrd hρ
        have hblt : b < (st i).heap.next := hwfi.lt (by rw [← hg1]; exact hobj)
        have hcont := cont_here T I R hμ hblt (fun k w' hxk hm hks => by
          constructor
          · intro hki
            rcases T.comp k i hki R.lt with h | h
            · exact h
            · rw [hf, hxk] at h
              simp only [compat] at h
              rw [memB_iff.2 hm] at h; cases h
          · intro hik
            rcases T.comp i k hik hks with h | h
            · exact h
            · rw [hf, hxk] at h
              simp only [compat] at h
              rw [memB_iff.2 hm] at h; cases h)
        have hone : WRel μ ((bare (st i).heap.next).put b obj) w := by
          refine ⟨fun b' l' o' hb' ho' => ?_, fun b1 b2 l1 l2 o1 o2 hne _ _ ho1 ho2 => ?_⟩
          · by_cases hbb : b = b'
            · subst hbb
              rw [Heap.get_put_same] at ho'; injection ho' with ho'; subst ho'
              exact I.obj b l' obj hb' (by rw [hcont, ← hg1]; exact hobj)
            · rw [Heap.get_put_ne _ _ hbb, bare_get] at ho'; cases ho'
          · exfalso
            by_cases h1 : b = b1
            · by_cases h2 : b = b2
              · exact hne (h1.symm.trans h2)
              · rw [Heap.get_put_ne _ _ h2, bare_get] at ho2; cases ho2
            · rw [Heap.get_put_ne _ _ h1, bare_get] at ho1; cases ho1
        obtain ⟨v', hrun2, hr⟩ := reads_sound hrd hρ hone (hall2 _ (Heap.get_put_same _ _ _))
        unfold Oper.wp
        rw [hrun2, Oper.upon_value]
        exact hK μ _ w (next_still T I R (fun b => by rw [hg2 b, hg1 b]) hr)
    · -- any other
      have hwr : ∀ b k w', nf k = .x w' → b ∈ w' → k < ops.size → (k < i → ordered (ancOf ops) k i = true) ∧ (i < k → ordered (ancOf ops) i k = true) := by
        intro b k w' hxk hm hks
        have hne : isNilL w' = false := by cases w' with
          | nil => simp at hm
          | cons _ _ => rfl
        constructor
        · intro hki
          rcases T.comp k i hki R.lt with h | h
          · exact h
          · rw [hf, hxk] at h
            simp only [compat, hne, Bool.false_and] at h
            cases h
        · intro hik
          rcases T.comp i k hik hks with h | h
          · exact h
          · rw [hf, hxk] at h
            simp only [compat, hne, Bool.and_false] at h
            cases h
      have hc1 : ∀ b l x, μ b = some l → H1.get b = some x → cont st S ops.size b = some x := by
        intro b l x hb hx
        rw [hg1] at hx
        rw [cont_here T I R hb (hwfi.lt hx) (hwr b)]
        exact hx
      have hwf1 : WF H1 := fun b hb => by rw [hg1]; exact hwfi b (by rw [← hn1]; exact hb)
      have hrel1 : WRel μ H1 w := ⟨fun b l x hb hx => I.obj b l x hb (hc1 b l x hb hx), fun b1 b2 l1 l2 o1 o2 hne hb1 hb2 ho1 ho2 => I.inj b1 b2 l1 l2 o1 o2 hne hb1 hb2 (hc1 b1 l1 o1 hb1 ho1) (hc1 b2 l2 o2 hb2 ho2)⟩
      refine evalOp_sound hcf hwf1 hρ hGμ hrel1 (fun b hb1 hb2 => fresh_here T I R b (by rw [← hn1]; exact hb1) (by rw [hn2]; exact hb2)) he ?_
      intro μ' w' v' hp hv
      obtain ⟨t1, t2⟩ := slots_next T I R
      have hdomμ : ∀ b l, μ' b = some l → b < (st i).heap.next → ∃ l, μ b = some l := by
        intro b l hb hlt
        rcases hp.dom b l hb with h | ⟨h, _⟩
        · exact ⟨l, h⟩
        · rw [hn1] at h; omega
      refine hK μ' _ w' (Inv.next (H := H1) (Hn := H2) I R.lt R.at_ hp hv (fun k => T.mono k) (by rw [hn1]; exact Nat.le_refl _) (by rw [hn2]; exact Nat.le_refl _) hc1 (fun b l x hb hx => ?_) (fun b l x hb hx hc => ?_) (R.dc I.dc) (fun d hd => ?_) t1 t2)
      · rw [← hg2] at hx
        rw [cont_after T I R (hdomμ b l hb) ((T.wf (i + 1)).lt hx) (hwr b)]
        exact hx
      · rw [← hg2] at hx
        have hge : (st (i + 1)).heap.next ≤ b := by
          rcases Nat.lt_or_ge b (st (i + 1)).heap.next with h | h
          · rw [cont_after T I R (hdomμ b l hb) h (hwr b), hx] at hc; cases hc
          · exact h
        have hnc : ¬ chg st i b := fun hc' => hc' (F.far b hge)
        rw [cont_same T hnc] at hc
        refine ⟨?_, ?_, hc⟩
        · rcases hp.dom b l hb with h | ⟨_, h⟩
          · exact h
          · rw [← hn2] at h; omega
        · exact hwf1 b (by rw [hn1]; exact Nat.le_trans F.next hge)
      · have := F.dlt d hd
        rwa [T.sizeL i] at this
end
end Go.R
