/-
  copy, len, conversions, maps, calls; and all operations together.
  No condition beyond those that each statement names.
-/
import Derived.Test.YtcakpkdeojhacaaRxMem2
namespace Go.R
section
variable {P : Program} {μ : Emb} {H H' : Heap} {w : World}

theorem copy_sound {types : Array TypeId} {ty : TypeId} {d s d' s' v : Value} (h : WRel μ H w) (hd : VRel μ d d') (hs : VRel μ s s') (ho : aCopy P types d s H = some (v, H')) :
    ∃ v' w', (Builtin.copy_ types ty #[d', s']).run P w = .ok v' w' ∧ Post μ H w μ H' w' ∧ VRel μ v v' := by
  unfold aCopy at ho
  split at ho
  · rename_i dt hdt
    split at ho
    · rename_i e base dn dk m hu hm
      split at ho
      · rename_i sz hsz
        simp only at ho
        obtain ⟨base', dk', rfl, hbn⟩ := isNone_slice hd
        have hlen : (Builtin.lenOf s').run P w = .ok m w := lenA_run hm hs
        cases hq : Nat.beq (Nat.min m dn) 0 with
        | true =>
          rw [hq] at ho
          simp only [cond_true, Option.some.injEq, Prod.mk.injEq] at ho
          obtain ⟨rfl, rfl⟩ := ho
          have h0 : Nat.min m dn = 0 := Nat.eq_of_beq_eq_true hq
          refine ⟨_, w, ?_, Post.refl h, .atom (goInt 0) rfl⟩
          have hfc : (Builtin.firstCells sz 0 s').run P w = .ok #[] w := by
            unfold lenA at hm
            split at hm
            · rename_i a n k
              obtain ⟨a', k', rfl, _⟩ := isNone_slice hs
              cases a' <;> simp [Builtin.firstCells, loadCells, loadCellsFrom]
            · rename_i u
              obtain rfl := hs.string_inv
              simp only [Builtin.firstCells, Sem.run_pure, byteArray_extract]
              congr 1
              simp
            · cases hm
          unfold Builtin.copy_
          simp only [hdt, show (#[Value.slice base' dn dk', s'] : Array Value)[0]? = some (Value.slice base' dn dk') from rfl, show (#[Value.slice base' dn dk', s'] : Array Value)[1]? = some s' from rfl,
            Sem.run_bind, run_underlying' w hu, Result.andThen_ok, hlen, run_sizeOf' w hsz, h0, hfc]
          cases base' <;> simp [storeCells]
        | false =>
          rw [hq] at ho
          simp only [cond_false] at ho
          split at ho
          · rename_i l a hl
            split at ho
            · rename_i H1 hst
              simp only [Option.some.injEq, Prod.mk.injEq] at ho
              obtain ⟨rfl, rfl⟩ := ho
              obtain ⟨b, o, sp⟩ := a
              have hsp : sp = none := hd.slice_some.1
              subst hsp
              obtain ⟨vs', hfr, hfrel, hflen⟩ := firstL_sound (P := P) h hs ⟨m, hm, Nat.min_le_left _ _⟩ hl
              obtain ⟨l0, hμ, hc⟩ := hd.slice_inv
              have h0 : Nat.min m dn ≠ 0 := fun e => by rw [e] at hq; cases hq
              have hdn : 0 < dn := by
                rcases Nat.eq_zero_or_pos dn with e | e
                · exfalso; apply h0; rw [e]; exact Nat.min_zero _
                · exact e
              obtain ⟨w', hrun, hp⟩ := storeL_sound (P := P) h hμ hst hfrel
              have hb' : base' = some ⟨l0.c, l0.sh + o, none⟩ := by
                rcases hc with ⟨_, he⟩ | ⟨e', o', k', _, he, hnk, _, hoff, _⟩
                · injection he with he
                · injection he with he _ _
                  rw [he, hoff (by omega)]
              subst hb'
              refine ⟨goInt (Nat.min m dn : Nat), w', ?_, hp, .atom _ rfl⟩
              unfold Builtin.copy_
              simp only [hdt, show (#[Value.slice (some ⟨l0.c, l0.sh + o, none⟩) dn dk', s'] : Array Value)[0]? = some (Value.slice (some ⟨l0.c, l0.sh + o, none⟩) dn dk') from rfl,
                show (#[Value.slice (some ⟨l0.c, l0.sh + o, none⟩) dn dk', s'] : Array Value)[1]? = some s' from rfl,
                Sem.run_bind, run_underlying' w hu, Result.andThen_ok, hlen, run_sizeOf' w hsz, hfr, hrun, Sem.run_pure]
            · cases ho
          · cases ho
      · cases ho
    · cases ho
  · cases ho

theorem len_sound {t ty : TypeId} {x x' v : Value} (h : WRel μ H w) (hx : VRel μ x x') (ho : aLen P t x H = some v) :
    (Builtin.len_ #[t] ty #[x']).run P w = .ok v w ∧ noA0 v = true := by
  unfold aLen at ho
  split at ho
  · rename_i e a n k hu
    injection ho with ho; subst ho
    obtain ⟨a', k', rfl, _⟩ := isNone_slice hx
    exact ⟨by simp [Builtin.len_, run_underlying' w hu], rfl⟩
  · rename_i s hu
    injection ho with ho; subst ho
    obtain rfl := hx.string_inv
    exact ⟨by simp [Builtin.len_, run_underlying' w hu, lenL_eq], rfl⟩
  · rename_i k e hu
    injection ho with ho; subst ho
    obtain rfl := hx.mapNil_inv
    exact ⟨by simp [Builtin.len_, run_underlying' w hu], rfl⟩
  · rename_i k e r hu
    split at ho
    · rename_i es hg
      injection ho with ho; subst ho
      obtain ⟨l, hμ, rfl⟩ := hx.map_inv
      obtain ⟨ces, clock, hh, hl, _⟩ := h.obj r l _ hμ hg
      have hget : (getObj l.c).run P w = .ok (.map ces clock) w := run_getObj hh (by intros; simp)
      exact ⟨by simp [Builtin.len_, run_underlying' w hu, hget, hl], rfl⟩
    · cases ho
  · cases ho

theorem bytesOfCells_run : ∀ (l : List Value) (r : List UInt8) (s : ByteArray), bytesOfCells l = some r →
    (forIn (m := Sem) l s (fun c s => match c with
      | .int .u8 n => Pure.pure (ForInStep.yield (s.push (UInt8.ofNat n.toNat)))
      | _ => do stuck "bytesToString: byte expected"; Pure.pure (ForInStep.yield s))).run P w = .ok ⟨⟨s.data.toList ++ r⟩⟩ w
  | [], r, s, h => by
    simp only [bytesOfCells, Option.some.injEq] at h; subst h
    simp
  | v :: l, r, s, h => by
    unfold bytesOfCells at h
    split at h
    · rename_i heq; cases heq
    · rename_i n l2 heq
      injection heq with h1 h2
      subst h1 h2
      split at h
      · rename_i r2 hr2
        injection h with h; subst h
        have ih := bytesOfCells_run l r2 (s.push (UInt8.ofNat n.toNat)) hr2
        simp only [List.forIn_cons, Sem.run_bind, Sem.run_pure, Result.andThen_ok, ih]
        congr 3
        simp
      · cases h
    · cases h

theorem bytesOfCells_atoms : ∀ (l : List Value) (r : List UInt8), bytesOfCells l = some r → l.all noA0 = true
  | [], _, _ => rfl
  | v :: l, r, h => by
    unfold bytesOfCells at h
    split at h
    · rename_i heq; cases heq
    · rename_i n l2 heq
      injection heq with h1 h2
      subst h1 h2
      split at h
      · rename_i r2 hr2
        simp only [List.all_cons, noA0, Bool.true_and]
        exact bytesOfCells_atoms l r2 hr2
      · cases h
    · cases h

theorem convert_sound {ρ ρ' : Operand → Value} {o : Oper} {s d : TypeId} {x : Operand} {r : AN} (h : WRel μ H w) (hop : o.op = .convert s d x) (hρ : ∀ x ∈ o.op.operands, VRel μ (ρ x) (ρ' x))
    (ho : aConvert P ρ o s d (ρ x) H = some (r, H')) : OpOK P μ H w (execOp ρ' o) r H' := by
  have hx : VRel μ (ρ x) (ρ' x) := hρ x (by rw [hop]; simp [Op.operands])
  have hexec : execOp ρ' o = (do Pure.pure (.value (← convert s d (ρ' x)))) := by unfold execOp; simp only [hop]
  unfold aConvert at ho
  split at ho
  · rename_i k n hv
    rw [hv] at hx
    obtain ⟨rfl, v, hv2, rfl⟩ := ovl_inv ho
    unfold convInt at hv2
    split at hv2
    · rename_i sd kd hus hud
      injection hv2 with hv2; subst hv2
      rw [hexec]
      refine OpOK.value (v' := .int kd (kd.wrap n)) ?_ (Post.refl h) (.atom _ rfl)
      rw [hx.int_inv]
      simp [convert, run_underlying' w hus, run_underlying' w hud, Conv.intToInt]
    · cases hv2
  · rename_i a n k hv
    rw [hv] at hx
    obtain ⟨rfl, v, hv2, rfl⟩ := ovl_inv ho
    rw [hexec]
    unfold convBytes at hv2
    split at hv2
    · rename_i e hus hud
      split at hv2
      · rename_i hue
        split at hv2
        · injection hv2 with hv2; subst hv2
          obtain ⟨_, _, hx'⟩ := hx.sliceNil_inv
          refine OpOK.value (v' := .string .empty) ?_ (Post.refl h) (.atom _ rfl)
          rw [hx']
          simp [convert, run_underlying' w hus, run_underlying' w hud, run_underlying' w hue, Conv.bytesToString]
        · rename_i a
          obtain ⟨b, o2, sp⟩ := a
          have hsp : sp = none := hx.slice_some.1
          subst hsp
          cases hq : Nat.beq n 0 with
          | true =>
            rw [hq] at hv2
            simp only [cond_true, Option.some.injEq] at hv2; subst hv2
            have hn : n = 0 := Nat.eq_of_beq_eq_true hq
            subst hn
            obtain ⟨_, a', k', hx'⟩ := hx.slice_some
            refine OpOK.value (v' := .string .empty) ?_ (Post.refl h) (.atom _ rfl)
            rw [hx']
            simp [convert, run_underlying' w hus, run_underlying' w hud, run_underlying' w hue, Conv.bytesToString, loadCells, loadCellsFrom]
          | false =>
            rw [hq] at hv2
            simp only [cond_false] at hv2
            have hn : n ≠ 0 := fun e => by subst e; cases hq
            split at hv2
            · rename_i l hl
              split at hv2
              · rename_i rb hrb
                injection hv2 with hv2; subst hv2
                obtain ⟨l0, hμ, hc⟩ := hx.slice_inv
                obtain ⟨vs', hrun, hrel, hlen⟩ := loadN_sound (P := P) h hμ hl
                have hvs : vs' = l := hrel.eq0 (bytesOfCells_atoms l rb hrb)
                subst hvs
                have hx' : ∃ k', ρ' x = .slice (some ⟨l0.c, l0.sh + o2, none⟩) n k' := by
                  rcases hc with ⟨_, he⟩ | ⟨e', o', k', _, he, hnk, _, hoff, _⟩
                  · exact ⟨k, he⟩
                  · rw [hoff (by omega)] at he; exact ⟨k', he⟩
                obtain ⟨k', hx'⟩ := hx'
                refine OpOK.value (v' := .string ⟨⟨rb⟩⟩) ?_ (Post.refl h) (.atom _ rfl)
                rw [hx']
                have hb := bytesOfCells_run (P := P) (w := w) vs' rb .empty hrb
                simp only [convert, Sem.run_bind, run_underlying' w hus, run_underlying' w hud, run_underlying' w hue, Result.andThen_ok, Conv.bytesToString, hrun]
                have he : ((ByteArray.empty.data.toList ++ rb : List UInt8)) = rb := rfl
                rw [he] at hb
                simp only [← Array.forIn_toList] at *
                exact congrArg (fun r => Result.andThen r fun a w' => Sem.run P (Pure.pure (Value.string a)) w') hb
              · cases hv2
            · cases hv2
      · cases hv2
    · cases hv2
  · obtain ⟨rfl, v, v', rfl, hrun, hr⟩ := plainOp_sound ho (fun _ _ => by rw [hop]; simp) hρ
    exact ⟨.value v', w, μ, hrun w, Post.refl h, hr⟩

/-! maps -/
theorem keyKind_atom {d : TypeDesc} {k : Value} (h : keyKind d k = true) : noA0 k = true := by
  unfold keyKind at h
  split at h <;> first | rfl | cases h

theorem byteArray_beq (a b : ByteArray) : (a == b) = bytesEq a b := by
  have e : (a == b) = (a.data == b.data) := by cases a; cases b; rfl
  rw [e, Bool.eq_iff_iff]
  simp only [beq_iff_eq, bytesEq]
  constructor
  · intro h; rw [h]
  · intro h; exact Array.toList_inj.1 h
theorem bytesEq_iff {a b : ByteArray} (h : bytesEq a b = true) : a = b := by
  simp only [bytesEq, beq_iff_eq] at h
  exact ByteArray.ext (Array.toList_inj.1 h)
theorem byteArray_beq_self (a : ByteArray) : (a == a) = true := by rw [byteArray_beq]; simp [bytesEq]

theorem sameNow_key {d : TypeDesc} {a b : Value} (ha : keyKind d a = true) (hb : keyKind d b = true) : Instr.sameNow d a b = some (sameKey a b) := by
  unfold keyKind at ha hb
  split at ha
  · split at hb
    · rename_i k k1 n _ _ k2 n2 heq
      injection heq with e1
      subst e1
      simp only [beq_iff_eq] at ha hb
      subst ha hb
      simp [Instr.sameNow, sameKey]
    · cases ‹TypeDesc.int _ = _›
    · cases ‹TypeDesc.int _ = _›
    · cases hb
  · split at hb
    · cases ‹TypeDesc.string = _›
    · simp [Instr.sameNow, sameKey, byteArray_beq]
    · cases ‹TypeDesc.string = _›
    · cases hb
  · split at hb
    · cases ‹TypeDesc.bool = _›
    · cases ‹TypeDesc.bool = _›
    · simp [Instr.sameNow, sameKey]
    · cases hb
  · cases ha

def EntRel (μ : Emb) (es : List (Value × Value)) (ces : List MapEntry) : Prop :=
  es.length = ces.length ∧ ∀ (i : Nat) x y, es[i]? = some x → ces[i]? = some y → VRel μ x.1 y.key ∧ VRel μ x.2 y.val

theorem EntRel.cons_left {x : Value × Value} {es : List (Value × Value)} {ces : List MapEntry} (h : EntRel μ (x :: es) ces) :
    ∃ y t, ces = y :: t ∧ VRel μ x.1 y.key ∧ VRel μ x.2 y.val ∧ EntRel μ es t := by
  cases ces with
  | nil => have := h.1; simp at this
  | cons y t =>
    obtain ⟨h1, h2⟩ := h.2 0 x y rfl rfl
    exact ⟨y, t, rfl, h1, h2, by have := h.1; simpa using this, fun i a b ha hb => h.2 (i + 1) a b (by simpa using ha) (by simpa using hb)⟩
theorem EntRel.cons {x : Value × Value} {es : List (Value × Value)} {y : MapEntry} {ces : List MapEntry} (h1 : VRel μ x.1 y.key) (h2 : VRel μ x.2 y.val) (h : EntRel μ es ces) :
    EntRel μ (x :: es) (y :: ces) := by
  refine ⟨by simp [h.1], fun i a b ha hb => ?_⟩
  cases i with
  | zero => simp at ha hb; subst ha hb; exact ⟨h1, h2⟩
  | succ i => exact h.2 i a b (by simpa using ha) (by simpa using hb)

theorem findNow_rel {d : TypeDesc} {k : Value} (hk : keyKind d k = true) : ∀ (es : List (Value × Value)) (ces : List MapEntry) (i : Nat), EntRel μ es ces → es.all (fun e => keyKind d e.1) = true →
    (∃ v v' j, findTab d k es = some v ∧ Instr.findNow d k ces i = some (some (i + j, v')) ∧ VRel μ v v' ∧ j < ces.length ∧
        (∃ y, ces[j]? = some y ∧ sameKey k y.key = true ∧ keyKind d y.key = true) ∧ (∀ u u' , VRel μ u u' → EntRel μ (setTab k u es) (ces.modify j fun e => { e with key := k, val := u' }))) ∨
    (findTab d k es = none ∧ Instr.findNow d k ces i = some none ∧ ∀ u u' b, VRel μ u u' → EntRel μ (setTab k u es) (ces ++ [{ key := k, val := u', born := b }]))
  | [], ces, i, h, _ => by
    have : ces = [] := List.eq_nil_of_length_eq_zero h.1.symm
    subst this
    refine .inr ⟨rfl, rfl, fun u u' b hu => ?_⟩
    exact EntRel.cons (x := (k, u)) (.atom k (keyKind_atom hk)) hu ⟨rfl, fun i a b ha => by simp at ha⟩
  | x :: es, ces, i, h, hall => by
    obtain ⟨y, t, rfl, hxk, hxv, ht⟩ := h.cons_left
    simp only [List.all_cons, Bool.and_eq_true] at hall
    have hyk : y.key = x.1 := hxk.eq0 (keyKind_atom hall.1)
    have hsn : Instr.sameNow d k y.key = some (sameKey k x.1) := by rw [hyk]; exact sameNow_key hk hall.1
    cases hs : sameKey k x.1 with
    | true =>
      refine .inl ⟨x.2, y.val, 0, ?_, ?_, hxv, by simp, ⟨y, rfl, by rw [hyk]; exact hs, by rw [hyk]; exact hall.1⟩, fun u u' hu => ?_⟩
      · simp only [findTab, hs, cond_true]
      · simp only [Instr.findNow, hsn, hs]; rfl
      · simp only [setTab, hs, cond_true, List.modify_zero_cons]
        exact EntRel.cons (x := (k, u)) (.atom k (keyKind_atom hk)) hu ht
    | false =>
      rcases findNow_rel hk es t (i + 1) ht hall.2 with ⟨v, v', j, h1, h2, h3, h4, h5, h6⟩ | ⟨h1, h2, h3⟩
      · refine .inl ⟨v, v', j + 1, ?_, ?_, h3, by simpa using h4, ?_, fun u u' hu => ?_⟩
        · simp only [findTab, hs, cond_false]; exact h1
        · simp only [Instr.findNow, hsn, hs]; rw [h2]; congr 3; omega
        · obtain ⟨y2, hy2, h7⟩ := h5
          exact ⟨y2, by simpa using hy2, h7⟩
        · simp only [setTab, hs, cond_false, List.modify_succ_cons]
          exact EntRel.cons (x := (x.1, x.2)) hxk hxv (h6 u u' hu)
      · refine .inr ⟨?_, ?_, fun u u' b hu => ?_⟩
        · simp only [findTab, hs, cond_false]; exact h1
        · simp only [Instr.findNow, hsn, hs]; exact h2
        · simp only [setTab, hs, cond_false, List.cons_append]
          exact EntRel.cons (x := (x.1, x.2)) hxk hxv (h3 u u' b hu)

theorem checkKey_run {d : TypeDesc} {kt : TypeId} {k : Value} (hu : P.underlying kt = some d) (hk : keyKind d k = true) (b : Bool) : (Instr.checkKey b 10000 kt k).run P w = .ok () w := by
  have key : ∀ n, (Instr.checkKey b (n + 1) kt k).run P w = .ok () w := by
    intro n
    unfold keyKind at hk
    split at hk
    · simp [Instr.checkKey, run_underlying' w hu]
    · simp [Instr.checkKey, run_underlying' w hu]
    · simp [Instr.checkKey, run_underlying' w hu]
    · cases hk
  exact key 9999

theorem lookup_sound {t : TypeId} {m k m' k' v : Value} {ok : Bool} (h : WRel μ H w) (hm : VRel μ m m') (hk : VRel μ k k') (ho : aLookup P t m k ok H = some v) :
    ∃ v', (Instr.lookup t m' k' ok).run P w = .ok v' w ∧ VRel μ v v' := by
  unfold aLookup at ho
  split at ho
  · rename_i kt et hu
    split at ho
    · rename_i d i hd hi
      split at ho
      · rename_i z hz
        cases hq : (keyKind d k && noA1 z) with
        | false => rw [hq] at ho; cases ho
        | true =>
          rw [hq] at ho
          simp only [cond_true] at ho
          simp only [Bool.and_eq_true] at hq
          have hk' : k' = k := hk.eq0 (keyKind_atom hq.1)
          subst hk'
          have hzr : VRel μ z z := VRel.refl1 hq.2
          have hzv : (zeroValue et).run P w = .ok z w := run_zeroValue w hi hz
          have tup : ∀ (u u' : Value) (b : Bool), VRel μ u u' → VRel μ (bif ok then .tuple #[u, .bool b] else u) (if ok then .tuple #[u', .bool b] else u') := by
            intro u u' b hu
            cases ok
            · exact hu
            · have := LRel.cons hu (LRel.cons (VRel.atom (μ := μ) (.bool b) rfl) LRel.nil)
              exact .tuple _ _ this.1 this.2
          split at ho
          · injection ho with ho; subst ho
            obtain rfl := hm.mapNil_inv
            refine ⟨_, ?_, tup z z false hzr⟩
            simp only [Instr.lookup, Sem.run_bind, run_underlying' w hu, Result.andThen_ok, Sem.run_pure, checkKey_run hd hq.1, Instr.findKey, run_underlying' w hd]
            simp [Instr.findNow, hzv]
          · rename_i r
            split at ho
            · rename_i es hg
              cases hq2 : es.all fun e => keyKind d e.1 with
              | false => rw [hq2] at ho; cases ho
              | true =>
                rw [hq2] at ho
                simp only [cond_true] at ho
                obtain ⟨l, hμ, rfl⟩ := hm.map_inv
                obtain ⟨ces, clock, hh, hl, hent⟩ := h.obj r l _ hμ hg
                have hget : (getObj l.c).run P w = .ok (.map ces clock) w := run_getObj hh (by intros; simp)
                have hpre : ∀ X, Instr.findNow d k' ces.toList 0 = some X → (Instr.lookup t (.map (some l.c)) k' ok).run P w =
                    (match X with
                      | some (_, v) => (.ok (if ok then .tuple #[v, .bool true] else v) w : Result Value)
                      | none => .ok (if ok then .tuple #[z, .bool false] else z) w) := by
                  intro X hX
                  simp only [Instr.lookup, Sem.run_bind, run_underlying' w hu, Result.andThen_ok, Sem.run_pure, hget, checkKey_run hd hq.1, Instr.findKey, run_underlying' w hd, hX]
                  cases X with
                  | none => simp [hzv]
                  | some p => obtain ⟨j, u⟩ := p; simp
                rcases findNow_rel hq.1 es ces.toList 0 ⟨hl, hent⟩ hq2 with ⟨u, u', j, h1, h2, h3, _⟩ | ⟨h1, h2, _⟩
                · rw [h1] at ho
                  simp only [Option.some.injEq] at ho; subst ho
                  exact ⟨_, hpre _ h2, tup u u' true h3⟩
                · rw [h1] at ho
                  simp only [Option.some.injEq] at ho; subst ho
                  exact ⟨_, hpre _ h2, tup z z false hzr⟩
            · cases ho
          · cases ho
      · cases ho
    · cases ho
  · cases ho

theorem sameBits_key {d : TypeDesc} {a b : Value} (ha : keyKind d a = true) (hb : keyKind d b = true) (h : sameKey a b = true) : Instr.sameBits 10000 b a = true := by
  have key : ∀ n, Instr.sameBits n b a = true := by
    intro n
    unfold keyKind at ha hb
    split at ha
    · split at hb
      · rename_i k k1 x _ _ k2 y heq
        injection heq with e1
        subst e1
        simp only [beq_iff_eq] at ha hb
        subst ha hb
        simp only [sameKey, beq_iff_eq] at h
        subst h
        cases n <;> simp [Instr.sameBits]
      · cases ‹TypeDesc.int _ = _›
      · cases ‹TypeDesc.int _ = _›
      · cases hb
    · split at hb
      · cases ‹TypeDesc.string = _›
      · rename_i x _ _ y _
        have h := bytesEq_iff h
        subst h
        cases n <;> simp [Instr.sameBits, byteArray_beq_self]
      · cases ‹TypeDesc.string = _›
      · cases hb
    · split at hb
      · cases ‹TypeDesc.bool = _›
      · cases ‹TypeDesc.bool = _›
      · simp only [sameKey, beq_iff_eq] at h
        subst h
        cases n <;> simp [Instr.sameBits]
      · cases hb
    · cases ha
  exact key 10000

theorem update_sound {t : TypeId} {m k v m' k' v' : Value} (h : WRel μ H w) (hm : VRel μ m m') (hk : VRel μ k k') (hv : VRel μ v v') (ho : aUpdate P t m k v H = some H') :
    ∃ w', (Instr.mapUpdate t m' k' v').run P w = .ok () w' ∧ Post μ H w μ H' w' := by
  unfold aUpdate at ho
  split at ho
  · rename_i kt et hu
    split at ho
    · rename_i d r hd
      split at ho
      · rename_i es hg
        cases hq : (keyKind d k && es.all fun e => keyKind d e.1) with
        | false => rw [hq] at ho; cases ho
        | true =>
          rw [hq] at ho
          simp only [cond_true, Option.some.injEq] at ho; subst ho
          simp only [Bool.and_eq_true] at hq
          have hk' : k' = k := hk.eq0 (keyKind_atom hq.1)
          subst hk'
          obtain ⟨l, hμ, rfl⟩ := hm.map_inv
          obtain ⟨ces, clock, hh, hl, hent⟩ := h.obj r l _ hμ hg
          have hget : (getObj l.c).run P w = .ok (.map ces clock) w := run_getObj hh (by intros; simp)
          have hset : ∀ o', (setObj l.c o').run P w = .ok () (setObjAt w l.c o') := fun o' => run_setObj hh (by intros; simp)
          rcases findNow_rel hq.1 es ces.toList 0 ⟨hl, hent⟩ hq.2 with ⟨u, u', j, h1, h2, h3, h4, ⟨y, hy, hys, hyk⟩, h6⟩ | ⟨h1, h2, h3⟩
          · refine ⟨setObjAt w l.c (.map (ces.modify j fun e => { e with key := k', val := v' }) clock), ?_, ?_⟩
            · have hyget : ces[j]? = some y := by simpa using hy
              simp only [Instr.mapUpdate, Sem.run_bind, run_underlying' w hu, Result.andThen_ok, hget, checkKey_run hd hq.1, Instr.findKey, run_underlying' w hd, h2, Sem.run_pure, Nat.zero_add, hyget, Option.map_some, Option.getD_some,
                Instr.keyThatStays, sameBits_key hq.1 hyk hys, if_true, hset]
            · have hr := h6 v v' hv
              refine Post.put h hμ hg rfl _ rfl _ ⟨_, clock, setObjAt_get_same w _ (lt_of_heap hh), ?_, ?_⟩
              · rw [Array.toList_modify]; exact hr.1
              · rw [Array.toList_modify]; exact hr.2
          · refine ⟨setObjAt w l.c (.map (ces.push { key := k', val := v', born := clock }) (clock + 1)), ?_, ?_⟩
            · simp only [Instr.mapUpdate, Sem.run_bind, run_underlying' w hu, Result.andThen_ok, hget, checkKey_run hd hq.1, Instr.findKey, run_underlying' w hd, h2, Sem.run_pure, hset]
            · have hr := h3 v v' clock hv
              refine Post.put h hμ hg rfl _ rfl _ ⟨_, clock + 1, setObjAt_get_same w _ (lt_of_heap hh), ?_, ?_⟩
              · rw [Array.toList_push]; exact hr.1
              · rw [Array.toList_push]; exact hr.2
      · cases ho
    · cases ho
  · cases ho

/-! calls -/
theorem callee_sound {f f' : Value} {args : List Value} {args' : Array Value} {r : AN} (hf : VRel μ f f') (ha : LRel μ args args'.toList) (ho : aCallee P f args = some r) :
    ∃ i fargs, r = .enter i fargs ∧ ∃ cargs, (∀ w, (do let d ← Deferred.ofValue f' args'; invoke d.target d.args : Sem Next).run P w = .ok (.enter i cargs) w) ∧ LRel μ fargs cargs.toList := by
  unfold aCallee at ho
  split at ho
  · rename_i i first captured
    obtain ⟨first', captured', rfl, h1, h2⟩ := hf.func_inv
    split at ho
    · rename_i fn hfn
      cases hq : (fn.body.isSome && !(fn.name == "runtime.NumGoroutine")) with
      | false => rw [hq] at ho; cases ho
      | true =>
        rw [hq] at ho
        simp only [cond_true, Option.some.injEq] at ho; subst ho
        simp only [Bool.and_eq_true, Bool.not_eq_true'] at hq
        refine ⟨i, _, rfl, (first' ++ args') ++ captured', fun w => ?_, ?_⟩
        · have hb : ¬ fn.body = none := by
            intro hbd
            rw [hbd] at hq; cases hq.1
          have hne : ¬ fn.name = "runtime.NumGoroutine" := by
            have := hq.2
            simpa using this
          simp [Deferred.ofValue, invoke, callFunc, hfn, hne, hb]
        · rw [appL_eq, appL_eq]
          have := (h1.append (ha.append h2))
          simpa using this
    · cases ho
  · cases ho
end
end Go.R
