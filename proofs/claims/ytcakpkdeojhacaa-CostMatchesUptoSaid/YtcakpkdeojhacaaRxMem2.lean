/-
  Slice expressions, append, copy, conversions, maps and calls, at related memory.
  No condition beyond those that each statement names.
-/
import Derived.Test.YtcakpkdeojhacaaRxMem
namespace Go.R
section
variable {P : Program} {μ : Emb} {H H' : Heap} {w : World}

theorem bnds_spec {n k l r : Nat} {lo hi : Option Value} (h : bnds n k lo hi = some (l, r)) :
    optNat n hi = some r ∧ optNat 0 lo = some l ∧ l ≤ r ∧ r ≤ k := by
  unfold bnds at h
  split at h
  · rename_i r' hr
    split at h
    · rename_i l' hl
      cases hq : (Nat.ble l' r' && Nat.ble r' k) with
      | false => rw [hq] at h; cases h
      | true =>
        rw [hq] at h; simp only [cond_true, Option.some.injEq, Prod.mk.injEq] at h
        obtain ⟨rfl, rfl⟩ := h
        simp only [Bool.and_eq_true] at hq
        exact ⟨hr, hl, Nat.le_of_ble_eq_true hq.1, Nat.le_of_ble_eq_true hq.2⟩
    · cases h
  · cases h

theorem sliceBound_run {v v' : Value} {n y : Nat} (h : asNat v = some n) (hr : VRel μ v v') (hle : n ≤ y) (code : BoundsCode) : (Instr.sliceBound v' y code).run P w = .ok n w := by
  obtain ⟨k, rfl⟩ := asNat_inv h hr
  have : (0 : Int) ≤ (n : Int) ∧ (n : Int) ≤ (y : Int) := by omega
  simp [Instr.sliceBound, asIntOf, this.2]

theorem bounds_run {isSlice : Bool} {n k k' l r : Nat} {lo hi lo' hi' : Option Value} (hb : bnds n k lo hi = some (l, r)) (hk : k ≤ k')
    (hlo : ∀ v, lo = some v → ∃ v', lo' = some v' ∧ VRel μ v v') (hlon : lo = none → lo' = none)
    (hhi : ∀ v, hi = some v → ∃ v', hi' = some v' ∧ VRel μ v v') (hhin : hi = none → hi' = none) :
    (Instr.sliceBounds isSlice n k' lo' hi' none).run P w = .ok (l, r, k') w := by
  obtain ⟨h1, h2, h3, h4⟩ := bnds_spec hb
  unfold Instr.sliceBounds
  cases hi with
  | none =>
    rw [hhin rfl]
    simp only [optNat, Option.some.injEq] at h1; subst h1
    cases lo with
    | none =>
      rw [hlon rfl]
      simp only [optNat, Option.some.injEq] at h2; subst h2
      simp
    | some u =>
      obtain ⟨u', hu', hur⟩ := hlo u rfl
      rw [hu']
      simp only [Sem.run_bind, Sem.run_pure, Result.andThen_ok, sliceBound_run (P := P) (w := w) h2 hur h3]
  | some v =>
    obtain ⟨v', hv', hr⟩ := hhi v rfl
    rw [hv']
    cases lo with
    | none =>
      rw [hlon rfl]
      simp only [optNat, Option.some.injEq] at h2; subst h2
      simp only [Sem.run_bind, Sem.run_pure, Result.andThen_ok, sliceBound_run (P := P) (w := w) h1 hr (by omega : r ≤ k')]
    | some u =>
      obtain ⟨u', hu', hur⟩ := hlo u rfl
      rw [hu']
      simp only [Sem.run_bind, Sem.run_pure, Result.andThen_ok, sliceBound_run (P := P) (w := w) h1 hr (by omega : r ≤ k'), sliceBound_run (P := P) (w := w) h2 hur h3]

theorem byteArray_extract (s : ByteArray) (l r : Nat) : s.extract l r = ⟨⟨(s.data.toList.drop l).take (r - l)⟩⟩ := by
  apply ByteArray.ext
  apply Array.ext'
  simp [List.drop_take]

theorem slice_run {t : TypeId} {x x' : Value} {lo hi mx lo' hi' mx' : Option Value} {r : AN} (h : WRel μ H w) (hx : VRel μ x x')
    (hlo : ∀ v, lo = some v → ∃ v', lo' = some v' ∧ VRel μ v v') (hlon : lo = none → lo' = none)
    (hhi : ∀ v, hi = some v → ∃ v', hi' = some v' ∧ VRel μ v v') (hhin : hi = none → hi' = none) (hmx : mx = none → mx' = none)
    (ho : ovl (aSlice P t x lo hi mx H) H = some (r, H')) : ∃ v v', r = .val v ∧ H' = H ∧ (Instr.sliceAt t x' lo' hi' mx').run P w = .ok v' w ∧ VRel μ v v' := by
  obtain ⟨rfl, v, hv, rfl⟩ := ovl_inv ho
  unfold aSlice at hv
  split at hv
  · cases hv
  rw [hmx rfl]
  simp only at hv
  split at hv
  · rename_i s hu
    obtain rfl := hx.string_inv
    split at hv
    · rename_i l r hb
      injection hv with hv; subst hv
      rw [lenL_eq] at hb
      have hsz : s.data.toList.length = s.size := by simp
      rw [hsz] at hb
      refine ⟨_, .string (s.extract l r), rfl, rfl, ?_, ?_⟩
      · simp [Instr.sliceAt, Instr.slice, run_underlying' w hu, bounds_run (P := P) (w := w) (isSlice := false) hb (Nat.le_refl _) hlo hlon hhi hhin]
      · rw [byteArray_extract, takeL_eq, dropL_eq]; exact .atom _ rfl
    · cases hv
  · rename_i e hu
    obtain rfl := hx.eq0 rfl
    split at hv
    · rename_i lr hb
      obtain ⟨l, r⟩ := lr
      cases hs : szOf P e with
      | none => rw [hs] at hv; cases hv
      | some sz =>
        rw [hs] at hv
        simp only [Option.isSome_some, cond_true, Option.some.injEq] at hv; subst hv
        obtain ⟨_, _, h3, h4⟩ := bnds_spec hb
        obtain rfl : r = 0 := by omega
        obtain rfl : l = 0 := by omega
        refine ⟨_, .slice none 0 0, rfl, rfl, ?_, .atom _ rfl⟩
        simp [Instr.sliceAt, Instr.slice, run_underlying' w hu, bounds_run (P := P) (w := w) (isSlice := true) hb (Nat.le_refl _) hlo hlon hhi hhin, run_sizeOf' w hs]
    · cases hv
  · rename_i e b o n k hu
    split at hv
    · rename_i l r sz cs opn ro hb hs hg
      obtain ⟨l0, hμ, hc⟩ := hx.slice_inv
      have hopn : l0.opn = opn := by
        have := h.obj b l0 _ hμ hg
        cases ro
        · exact this.1
        · exact this.1
      obtain ⟨_, _, h3, h4⟩ := bnds_spec hb
      split at hv
      · injection hv with hv; subst hv
        rcases hc with ⟨ho0, rfl⟩ | ⟨e', o', k', ho0, rfl, _⟩
        · refine ⟨_, .slice (some (if k = l then ⟨l0.c, l0.sh + o, none⟩ else Addr.add ⟨l0.c, l0.sh + o, none⟩ (l * sz))) (r - l) (k - l), rfl, rfl, ?_, ?_⟩
          · simp only [Instr.sliceAt, Instr.slice, Sem.run_bind, run_underlying' w hu, Result.andThen_ok, bounds_run (P := P) (w := w) (isSlice := true) hb (Nat.le_refl _) hlo hlon hhi hhin, run_sizeOf' w hs, Sem.run_pure]
            split <;> rfl
          · by_cases hkl : k = l
            · rw [if_pos hkl]
              have : Nat.beq k l = true := by rw [hkl]; exact Nat.beq_refl l
              rw [this]
              exact .sliceC b o _ _ l0 hμ ho0
            · rw [if_neg hkl]
              have : Nat.beq k l = false := by
                cases hq : Nat.beq k l with
                | false => rfl
                | true => exact absurd (Nat.eq_of_beq_eq_true hq) hkl
              rw [this, Addr_add, Nat.add_assoc]
              exact .sliceC b (o + l * sz) _ _ l0 hμ ho0
        · rw [hopn] at ho0; cases ho0
      · rename_i ez
        cases hq : Nat.beq ez sz with
        | false => rw [hq] at hv; cases hv
        | true =>
          rw [hq] at hv
          simp only [cond_true, Option.some.injEq] at hv; subst hv
          have hes : ez = sz := Nat.eq_of_beq_eq_true hq
          rcases hc with ⟨ho0, rfl⟩ | ⟨e', o', k', ho0, rfl, hnk, hkk, hoff, hbd⟩
          · rw [hopn] at ho0; cases ho0
          · rw [hopn] at ho0; injection ho0 with ho0
            subst ho0 hes
            refine ⟨_, .slice (some (if k' = l then ⟨l0.c, o', none⟩ else Addr.add ⟨l0.c, o', none⟩ (l * ez))) (r - l) (k' - l), rfl, rfl, ?_, ?_⟩
            · simp only [Instr.sliceAt, Instr.slice, Sem.run_bind, run_underlying' w hu, Result.andThen_ok, bounds_run (P := P) (w := w) (isSlice := true) hb hkk hlo hlon hhi hhin, run_sizeOf' w hs, Sem.run_pure]
              split <;> rfl
            · by_cases hkl : k' = l
              · rw [if_pos hkl]
                refine .sliceO b (o + l * ez) o' _ _ _ ez l0 hμ hopn (by omega) (by omega) (by omega) ?_
                rw [hkl, Nat.sub_self, Nat.zero_mul]; omega
              · rw [if_neg hkl, Addr_add]
                refine .sliceO b (o + l * ez) (o' + l * ez) _ _ _ ez l0 hμ hopn (by omega) (by omega) (fun hpos => ?_) ?_
                · rw [hoff (by omega)]; omega
                · have : l * ez + (k' - l) * ez = k' * ez := by rw [← Nat.add_mul]; congr 1; omega
                  omega
    · cases hv
  · rename_i n e b o hu
    split at hv
    · rename_i l r sz cs ro hb hs hg
      obtain ⟨l0, hμ, rfl⟩ := hx.ptr_inv
      have hopn : l0.opn = none := by
        have := h.obj b l0 _ hμ hg
        cases ro
        · exact this.1
        · exact this.1
      injection hv with hv; subst hv
      refine ⟨_, .slice (some (if n = l then ⟨l0.c, l0.sh + o, none⟩ else Addr.add ⟨l0.c, l0.sh + o, none⟩ (l * sz))) (r - l) (n - l), rfl, rfl, ?_, ?_⟩
      · simp only [Instr.sliceAt, Sem.run_bind, run_underlying' w hu, Result.andThen_ok, Instr.sureAddr, Sem.run_pure, bounds_run (P := P) (w := w) (isSlice := false) hb (Nat.le_refl _) hlo hlon hhi hhin, run_sizeOf' w hs]
      · by_cases hkl : n = l
        · rw [if_pos hkl]
          have : Nat.beq n l = true := by rw [hkl]; exact Nat.beq_refl l
          rw [this]
          exact .sliceC b o _ _ l0 hμ hopn
        · rw [if_neg hkl]
          have : Nat.beq n l = false := by
            cases hq : Nat.beq n l with
            | false => rfl
            | true => exact absurd (Nat.eq_of_beq_eq_true hq) hkl
          rw [this, Addr_add, Nat.add_assoc]
          exact .sliceC b (o + l * sz) _ _ l0 hμ hopn
    · cases hv
  · cases hv

/-! append -/
theorem slice_sound {t : TypeId} {x x' : Value} {lo hi mx lo' hi' mx' : Option Value} {r : AN} (h : WRel μ H w) (hx : VRel μ x x')
    (hlo : ∀ v, lo = some v → ∃ v', lo' = some v' ∧ VRel μ v v') (hlon : lo = none → lo' = none)
    (hhi : ∀ v, hi = some v → ∃ v', hi' = some v' ∧ VRel μ v v') (hhin : hi = none → hi' = none) (hmx : mx = none → mx' = none)
    (ho : ovl (aSlice P t x lo hi mx H) H = some (r, H')) : OpOK P μ H w (do Pure.pure (.value (← Instr.sliceAt t x' lo' hi' mx'))) r H' := by
  obtain ⟨v, v', rfl, rfl, hrun, hr⟩ := slice_run (P := P) h hx hlo hlon hhi hhin hmx ho
  exact OpOK.value hrun (Post.refl h) hr

theorem lenA_run {x x' : Value} {m : Nat} (h : lenA x = some m) (hx : VRel μ x x') : (Builtin.lenOf x').run P w = .ok m w := by
  unfold lenA at h
  split at h
  · injection h with h; subst h
    rename_i a n k
    obtain ⟨a', k', rfl, _⟩ := isNone_slice hx
    rfl
  · rename_i s
    injection h with h; subst h
    obtain rfl := hx.string_inv
    rw [lenL_eq]; simp [Builtin.lenOf]
  · cases h

theorem firstL_sound {x x' : Value} {sz m : Nat} {vs : List Value} (h : WRel μ H w) (hx : VRel μ x x') (hl : ∃ m0, lenA x = some m0 ∧ m ≤ m0) (hf : firstL H sz m x = some vs) :
    ∃ vs', (Builtin.firstCells sz m x').run P w = .ok ⟨vs'⟩ w ∧ LRel μ vs vs' ∧ vs.length = m * sz := by
  unfold firstL at hf
  split at hf
  · rename_i a n k
    obtain ⟨b, o, sp⟩ := a
    have hsp : sp = none := hx.slice_some.1
    subst hsp
    cases hq : Nat.beq m 0 with
    | true =>
      rw [hq] at hf
      simp only [cond_true, Option.some.injEq] at hf; subst hf
      have hm : m = 0 := Nat.eq_of_beq_eq_true hq
      subst hm
      obtain ⟨_, a', k', rfl⟩ := hx.slice_some
      exact ⟨[], by simp [Builtin.firstCells, loadCells, loadCellsFrom], .nil, by simp⟩
    | false =>
      rw [hq] at hf
      simp only [cond_false] at hf
      have hm : m ≠ 0 := fun e => by subst e; cases hq
      obtain ⟨m0, hm0, hle⟩ := hl
      simp only [lenA, Option.some.injEq] at hm0; subst hm0
      obtain ⟨l, hμ, hc⟩ := hx.slice_inv
      obtain ⟨vs', hrun, hr, hlen⟩ := loadN_sound (P := P) h hμ hf
      rcases hc with ⟨_, rfl⟩ | ⟨e', o', k', _, rfl, hnk, _, hoff, _⟩
      · exact ⟨vs', by simp only [Builtin.firstCells, hrun], hr, hlen⟩
      · rw [hoff (by omega)]
        exact ⟨vs', by simp only [Builtin.firstCells, hrun], hr, hlen⟩
  · rename_i n k
    cases hq : Nat.beq m 0 with
    | false => rw [hq] at hf; cases hf
    | true =>
      rw [hq] at hf
      simp only [cond_true, Option.some.injEq] at hf; subst hf
      have hm : m = 0 := Nat.eq_of_beq_eq_true hq
      subst hm
      obtain ⟨_, _, rfl⟩ := hx.sliceNil_inv
      exact ⟨[], by simp [Builtin.firstCells], .nil, by simp⟩
  · rename_i s
    cases hq : Nat.beq sz 1 with
    | false => rw [hq] at hf; cases hf
    | true =>
      rw [hq] at hf
      simp only [cond_true, Option.some.injEq, mapL_eq, takeL_eq] at hf; subst hf
      have hs : sz = 1 := Nat.eq_of_beq_eq_true hq
      subst hs
      obtain rfl := hx.string_inv
      obtain ⟨m0, hm0, hle⟩ := hl
      simp only [lenA, lenL_eq, Option.some.injEq] at hm0; subst hm0
      refine ⟨(s.data.toList.take m).map fun b => .int .u8 b.toNat, ?_, LRel.refl0 ?_, ?_⟩
      · simp only [Builtin.firstCells, Sem.run_pure, byteArray_extract]
        congr 1
        apply Array.ext'
        simp
      · rw [List.all_eq_true]
        intro u hu
        obtain ⟨c, _, rfl⟩ := List.mem_map.1 hu
        rfl
      · simp at hle ⊢; omega
  · cases hf

theorem growBy_le (newLen : Nat) : ∀ (r c : Nat), c ≤ newLen + (newLen + 768) / 4 → Builtin.growBy newLen r c ≤ newLen + (newLen + 768) / 4
  | 0, c, h => h
  | r + 1, c, h => by
    simp only [Builtin.growBy]
    split
    · exact h
    · exact growBy_le newLen r _ (by omega)
theorem nextcap_le {n k : Nat} (h : k < n) : Builtin.nextslicecap n k ≤ 2 * n + 768 := by
  unfold Builtin.nextslicecap
  split
  · omega
  · split
    · omega
    · have := growBy_le n 4 k (by omega); omega

theorem zeroCells_len {z : Array Value} {sz : Nat} (h : z.size = sz) (n : Nat) : (Builtin.zeroCells z n).toList.length = n * sz := by simp [Builtin.zeroCells, h]
theorem zeroCells_size (z : Array Value) (n : Nat) : (Builtin.zeroCells z n).size = n * z.size := by simp [Builtin.zeroCells]

/-- A slice that grows beyond its capacity: a new row, whatever capacity the tape gives. -/
theorem grow_run {st xt ty e : TypeId} {xd : TypeDesc} {x' : Value} {base : Option Addr} {n m k sz : Nat} {i : TypeInfo} {z : Value} {old new : List Value}
    (hu : P.underlying st = some (.slice e)) (hux : P.underlying xt = some xd) (hni : ∀ kk, xd ≠ .int kk) (hi : P.info? e = some i) (hs : i.size = sz) (hz : i.zero = some z)
    (hlen : (Builtin.lenOf x').run P w = .ok m w) (hlt : k < n + m) (h31 : n + m ≤ 2147483648) (hby : i.bytes ≤ 4096)
    (hold : (Builtin.firstCells sz n (.slice base n k)).run P w.drew = .ok ⟨old⟩ w.drew) (hnew : (Builtin.firstCells sz m x').run P w.drew = .ok ⟨new⟩ w.drew) :
    ∃ nc, n + m ≤ nc ∧ (Builtin.append_ #[st, xt] ty #[.slice base n k, x']).run P w =
      .ok (.slice (some ⟨w.heap.size, 0, none⟩) (n + m) nc) (w.drew.alloc (.cells (⟨old⟩ ++ ⟨new⟩ ++ Builtin.zeroCells z.cells (nc - (n + m))) e)) := by
  have hss : szOf P e = some sz := by unfold szOf; rw [hi, ← hs]
  have hcap := nextcap_le hlt
  have hnot : ¬ (Builtin.nextslicecap (n + m) k * i.bytes > 2 ^ 48) := by
    have : Builtin.nextslicecap (n + m) k * i.bytes ≤ (2 * 2147483648 + 768) * 4096 := Nat.mul_le_mul (by omega) hby
    have h48 : (2 : Nat) ^ 48 = 281474976710656 := by decide
    omega
  have h63 : ¬ (((n + m : Nat) : Int) > IntKind.i64.max ∧ (False ∨ i.bytes = 0)) := by
    rw [IntKind.max_i64]; omega
  refine ⟨(Question.appendCap (n + m) k e).cut (w.tape w.drawn (.appendCap (n + m) k e)), by simp [Question.cut], ?_⟩
  have hm1 : (match xd with | .int _ => true | _ => false) = false := by
    cases xd <;> first | rfl | exact absurd rfl (hni _)
  have e1 : ∀ a b : Value, (#[a, b] : Array Value)[0]? = some a ∧ (#[a, b] : Array Value)[1]? = some b := fun a b => ⟨rfl, rfl⟩
  unfold Builtin.append_
  simp only [show (#[st, xt] : Array TypeId)[0]? = some st from rfl, show (#[st, xt] : Array TypeId)[1]? = some xt from rfl,
    show (#[Value.slice base n k, x'] : Array Value)[0]? = some (Value.slice base n k) from rfl, show (#[Value.slice base n k, x'] : Array Value)[1]? = some x' from rfl,
    Sem.run_bind, run_underlying' w hu, run_underlying' w hux, Result.andThen_ok, run_sizeOf' w hss, Sem.run_pure, hm1, Bool.false_eq_true, if_false, hlen,
    show ¬ (n + m ≤ k) by omega, run_typeInfo' w hi, hnot, h63]
  simp only [Sem.run_bind, run_choose, Question.forced, Bool.false_eq_true, if_false, Result.andThen_ok, World.drew_eq, run_typeInfo' w.drew hi, run_askRoom, hold, hnew, Bool.not_false, if_true,
    run_zeroValue w.drew hi hz, newRow, run_newObj, Sem.run_pure]
  rfl

/-- A slice whose capacity suffices. -/
theorem fits_run {st xt ty e : TypeId} {xd : TypeDesc} {x' : Value} {base : Option Addr} {n m k sz : Nat} {new : List Value} {w' : World}
    (hu : P.underlying st = some (.slice e)) (hux : P.underlying xt = some xd) (hni : ∀ kk, xd ≠ .int kk) (hs : szOf P e = some sz)
    (hlen : (Builtin.lenOf x').run P w = .ok m w) (hle : n + m ≤ k) (hnew : (Builtin.firstCells sz m x').run P w = .ok ⟨new⟩ w)
    (hst : ∀ a, base = some a → (storeCells (a.add (n * sz)) new).run P w = .ok () w') (hno : base = none → w' = w) :
    (Builtin.append_ #[st, xt] ty #[.slice base n k, x']).run P w = .ok (.slice base (n + m) k) w' := by
  have hm1 : (match xd with | .int _ => true | _ => false) = false := by
    cases xd <;> first | rfl | exact absurd rfl (hni _)
  unfold Builtin.append_
  simp only [show (#[st, xt] : Array TypeId)[0]? = some st from rfl, show (#[st, xt] : Array TypeId)[1]? = some xt from rfl,
    show (#[Value.slice base n k, x'] : Array Value)[0]? = some (Value.slice base n k) from rfl, show (#[Value.slice base n k, x'] : Array Value)[1]? = some x' from rfl,
    Sem.run_bind, run_underlying' w hu, run_underlying' w hux, Result.andThen_ok, run_sizeOf' w hs, Sem.run_pure, hm1, Bool.false_eq_true, if_false, hlen, hle, if_true, Bool.not_false, hnew]
  cases base with
  | none => rw [hno rfl]; rfl
  | some a => simp only [Sem.run_bind, hst a rfl, Result.andThen_ok, Sem.run_pure]

theorem Post.kill (h : WRel μ H w) {b : Nat} {l : Loc} {o : AObj} (hb : μ b = some l) (ho : H.get b = some o) (hr : o.rw = true) : Post μ H w μ (H.put b .dead) w := by
  refine ⟨fun _ _ h => h, fun _ _ h => .inl h, Nat.le_refl _, rfl, rfl, rfl, fun _ _ _ => rfl, fun k x ox hk hox hrx => ?_, ⟨fun k x ox hk hox => ?_, fun b1 b2 l1 l2 o1 o2 hne hb1 hb2 ho1 ho2 hr1 hr2 => ?_⟩⟩
  · by_cases e : b = k
    · subst e; exact .inr ⟨b, l, o, hb, ho, rw_live hr, fun _ => hr, by rw [hb] at hk; injection hk with hk; rw [hk]⟩
    · rw [Heap.get_put_ne H _ e] at hox; exact .inr ⟨k, x, ox, hk, hox, hrx, id, rfl⟩
  · by_cases e : b = k
    · subst e; rw [Heap.get_put_same] at hox; injection hox with hox; subst hox; trivial
    · rw [Heap.get_put_ne H _ e] at hox; exact h.obj k x ox hk hox
  · have old : ∀ k ok, ok.live = true → (H.put b .dead).get k = some ok → H.get k = some ok := by
      intro k ok hlv hok
      by_cases e : b = k
      · subst e; rw [Heap.get_put_same] at hok; injection hok with hok; subst hok; simp [AObj.live] at hlv
      · rw [Heap.get_put_ne H _ e] at hok; exact hok
    exact h.inj b1 b2 l1 l2 o1 o2 hne hb1 hb2 (old b1 o1 (by cases o1 <;> simp_all [AObj.rw, AObj.live]) ho1) (old b2 o2 hr2 ho2) hr1 hr2

theorem szOf_info {e : TypeId} {s : Nat} (h : szOf P e = some s) : ∃ i, P.info? e = some i ∧ i.size = s := by
  unfold szOf at h
  split at h
  · rename_i i hi; injection h with h; exact ⟨i, hi, h⟩
  · cases h

theorem cells_append (a b : List Value) (c : Array Value) : (⟨a⟩ ++ ⟨b⟩ ++ c : Array Value) = ⟨(a ++ b) ++ c.toList⟩ := by
  apply Array.ext'
  simp

theorem append_sound {types : Array TypeId} {ty : TypeId} {s x s' x' v : Value} (h : WRel μ H w) (hf : ∀ b, H.next ≤ b → b < H'.next → μ b = none)
    (hs : VRel μ s s') (hx : VRel μ x x') (htypes : types.size = 2) (ho : aAppend P types s x H = some (v, H')) :
    ∃ v' w' μ', (Builtin.append_ types ty #[s', x']).run P w = .ok v' w' ∧ Post μ H w μ' H' w' ∧ VRel μ' v v' := by
  obtain ⟨tl⟩ := types
  match tl, htypes with
  | [st, xt], _ =>
  unfold aAppend at ho
  simp only [show (#[st, xt] : Array TypeId)[0]? = some st from rfl, show (#[st, xt] : Array TypeId)[1]? = some xt from rfl] at ho
  split at ho
  · rename_i e xd hu hux
    split at ho
    · cases ho
    rename_i hni
    split at ho
    · rename_i sz by_ z m hsz hby hz hm
      obtain ⟨i, vz, hi, hvz, hvc, hall⟩ := zeroOf_spec (P := P) hz
      obtain ⟨i2, hi2, hbb⟩ := bytesOf_info hby
      rw [hi] at hi2; injection hi2 with hi2; subst hi2
      obtain ⟨i3, hi3, hss⟩ := szOf_info hsz
      rw [hi] at hi3; injection hi3 with hi3; subst hi3
      have hlen : (Builtin.lenOf x').run P w = .ok m w := lenA_run hm hx
      split at ho
      · cases ho
      rename_i new hnew
      obtain ⟨new', hnrun, hnrel, hnlen⟩ := firstL_sound (P := P) h hx ⟨m, hm, Nat.le_refl _⟩ hnew
      obtain ⟨new2, hnrun2, hnrel2, _⟩ := firstL_sound (P := P) h.drew hx ⟨m, hm, Nat.le_refl _⟩ hnew
      split at ho
      · -- nil
        obtain rfl := hs.eq0 rfl
        cases hq : Nat.beq m 0 with
        | true =>
          rw [hq] at ho
          simp only [cond_true, Option.some.injEq, Prod.mk.injEq] at ho
          obtain ⟨rfl, rfl⟩ := ho
          have hm0 : m = 0 := Nat.eq_of_beq_eq_true hq
          subst hm0
          exact ⟨_, w, μ, fits_run (w' := w) hu hux (fun kk => hni kk) hsz hlen (Nat.le_refl _) hnrun (fun a ha => by cases ha) (fun _ => rfl), Post.refl h, .atom _ rfl⟩
        | false =>
          rw [hq] at ho
          simp only [cond_false] at ho
          have hm0 : m ≠ 0 := fun e => by subst e; cases hq
          cases hq2 : (Nat.beq (lenL z) sz && Nat.ble m 2147483648 && Nat.ble by_ 4096 && !Nat.beq sz 0) with
          | false => rw [hq2] at ho; cases ho
          | true =>
            rw [hq2] at ho
            simp only [cond_true, Option.some.injEq, Prod.mk.injEq] at ho
            obtain ⟨rfl, rfl⟩ := ho
            simp only [Bool.and_eq_true, Bool.not_eq_true'] at hq2
            obtain ⟨⟨⟨q1, q2⟩, q3⟩, q4⟩ := hq2
            have q1 : z.length = sz := by rw [← lenL_eq]; exact Nat.eq_of_beq_eq_true q1
            have q2 := Nat.le_of_ble_eq_true q2
            have q3 := Nat.le_of_ble_eq_true q3
            obtain ⟨nc, hnc, hrun⟩ := grow_run (P := P) (w := w) (ty := ty) (base := none) (n := 0) (k := 0) (old := []) hu hux (fun kk => hni kk) hi hss hvz hlen (by omega) (by omega) (by omega) (by simp [Builtin.firstCells]) hnrun2
            simp only [Nat.zero_add] at hrun hnc
            rw [cells_append, List.nil_append] at hrun
            obtain ⟨l, h1, h2, h3, h4, _, hp⟩ := newRow_sound (P := P) h.drew (hf H.next (Nat.le_refl _) (by simp [newCells])) e hnrel2 (Builtin.zeroCells vz.cells (nc - m)).toList (some sz) (fun e => by cases e)
            refine ⟨_, _, _, hrun, (Post.drew h).trans hp (Nat.le_refl _) (by simp [newCells]), ?_⟩
            have := VRel.sliceO (μ := μ.set H.next l) H.next 0 0 m m nc sz l (Emb.set_same _ _ _) h3 (Nat.le_refl _) hnc (fun _ => by omega) (by
              rw [h4, zeroCells_len (show vz.cells.size = sz by rw [← q1, ← hvc]; simp), hnlen, Nat.zero_add, ← Nat.add_mul]
              exact Nat.mul_le_mul_right _ (by omega))
            rw [h1] at this; exact this
      · -- a slice
        rename_i b o n k
        obtain ⟨l, hμ, hc⟩ := hs.slice_inv
        split at ho
        · rename_i cs opn ro hg
          have hopn : l.opn = opn := by
            have := h.obj b l _ hμ hg
            cases ro
            · exact this.1
            · exact this.1
          cases hq : Nat.ble (n + m) k with
          | true =>
            rw [hq] at ho
            simp only [cond_true] at ho
            have hle : n + m ≤ k := Nat.le_of_ble_eq_true hq
            cases hq0 : Nat.beq m 0 with
            | true =>
              rw [hq0] at ho
              simp only [cond_true, Option.some.injEq, Prod.mk.injEq] at ho
              obtain ⟨rfl, rfl⟩ := ho
              have hm0 : m = 0 := Nat.eq_of_beq_eq_true hq0
              subst hm0
              have hn' : new' = [] := List.eq_nil_of_length_eq_zero (by rw [← hnrel.1, hnlen]; simp)
              subst hn'
              rcases hc with ⟨ho0, rfl⟩ | ⟨e', o', k', ho0, rfl, hnk, hkk, hoff, hbd⟩
              · exact ⟨_, w, μ, fits_run (w' := w) hu hux (fun kk => hni kk) hsz hlen hle hnrun (fun a ha => rfl) (fun e => by cases e), Post.refl h, hs⟩
              · exact ⟨_, w, μ, fits_run (w' := w) hu hux (fun kk => hni kk) hsz hlen (by omega) hnrun (fun a ha => rfl) (fun e => by cases e), Post.refl h, hs⟩
            | false =>
              rw [hq0] at ho
              simp only [cond_false] at ho
              have hm0 : m ≠ 0 := fun e => by subst e; cases hq0
              split at ho
              · rename_i h1 hst
                simp only [Option.some.injEq, Prod.mk.injEq] at ho
                obtain ⟨rfl, rfl⟩ := ho
                obtain ⟨w', hrun, hp⟩ := storeL_sound (P := P) h hμ hst hnrel
                rcases hc with ⟨ho0, rfl⟩ | ⟨e', o', k', ho0, rfl, hnk, hkk, hoff, hbd⟩
                · refine ⟨_, w', μ, fits_run (w' := w') hu hux (fun kk => hni kk) hsz hlen hle hnrun (fun a ha => ?_) (fun e => by cases e), hp, .sliceC b o _ _ l hμ ho0⟩
                  injection ha with ha; subst ha
                  rw [Addr_add, Nat.add_assoc]; exact hrun
                · refine ⟨_, w', μ, fits_run (w' := w') hu hux (fun kk => hni kk) hsz hlen (by omega) hnrun (fun a ha => ?_) (fun e => by cases e), hp, .sliceO b o o' _ _ _ e' l hμ ho0 hle hkk hoff hbd⟩
                  injection ha with ha; subst ha
                  rw [Addr_add, hoff (by omega), Nat.add_assoc]; exact hrun
              · cases ho
          | false =>
            rw [hq] at ho
            simp only [cond_false] at ho
            have hlt : k < n + m := by
              rcases Nat.lt_or_ge k (n + m) with h' | h'
              · exact h'
              · rw [Nat.ble_eq_true_of_le h'] at hq; cases hq
            cases hq2 : (Nat.beq (lenL z) sz && Nat.ble (n + m) 2147483648 && Nat.ble by_ 4096 && !Nat.beq sz 0 && Nat.ble n k) with
            | false => rw [hq2] at ho; cases ho
            | true =>
              rw [hq2] at ho
              simp only [cond_true] at ho
              simp only [Bool.and_eq_true, Bool.not_eq_true'] at hq2
              obtain ⟨⟨⟨⟨q1, q2⟩, q3⟩, q4⟩, q5⟩ := hq2
              have q1 : z.length = sz := by rw [← lenL_eq]; exact Nat.eq_of_beq_eq_true q1
              have q2 := Nat.le_of_ble_eq_true q2
              have q3 := Nat.le_of_ble_eq_true q3
              have q5 := Nat.le_of_ble_eq_true q5
              have q4' : sz ≠ 0 := fun e => by rw [e] at q4; cases q4
              have hvsz : vz.cells.size = sz := by rw [← q1, ← hvc]; simp
              split at ho
              · cases ho
              rename_i old hold
              obtain ⟨old', horun, horel, holen⟩ := firstL_sound (P := P) h hs ⟨n, rfl, Nat.le_refl _⟩ hold
              obtain ⟨old2, horun2, horel2, _⟩ := firstL_sound (P := P) h.drew hs ⟨n, rfl, Nat.le_refl _⟩ hold
              split at ho
              · -- exact
                simp only [Option.some.injEq, Prod.mk.injEq] at ho
                obtain ⟨rfl, rfl⟩ := ho
                rcases hc with ⟨ho0, rfl⟩ | ⟨e', o', k', ho0, rfl, _⟩
                · obtain ⟨nc, hnc, hrun⟩ := grow_run (P := P) (w := w) (ty := ty) hu hux (fun kk => hni kk) hi hss hvz hlen hlt q2 (by omega) horun2 hnrun2
                  rw [cells_append] at hrun
                  obtain ⟨l', h1, h2, h3, h4, _, hp⟩ := newRow_sound (P := P) h.drew (hf H.next (Nat.le_refl _) (by simp [newCells])) e (horel2.append hnrel2) (Builtin.zeroCells vz.cells (nc - (n + m))).toList (some sz) (fun e => by cases e)
                  rw [appL_eq]
                  refine ⟨_, _, _, hrun, (Post.drew h).trans hp (Nat.le_refl _) (by simp [newCells]), ?_⟩
                  have := VRel.sliceO (μ := μ.set H.next l') H.next 0 0 (n + m) (n + m) nc sz l' (Emb.set_same _ _ _) h3 (Nat.le_refl _) hnc (fun _ => by omega) (by
                    rw [h4, zeroCells_len hvsz, List.length_append, holen, hnlen, Nat.zero_add, ← Nat.add_mul, ← Nat.add_mul]
                    exact Nat.mul_le_mul_right _ (by omega))
                  rw [h1] at this; exact this
                · rw [hopn] at ho0; cases ho0
              · -- open
                rename_i ez
                cases hq3 : (Nat.beq ez sz && !ro && allL Value.oneCell' new) with
                | false => rw [hq3] at ho; cases ho
                | true =>
                  rw [hq3] at ho
                  simp only [cond_true, Option.some.injEq, Prod.mk.injEq] at ho
                  obtain ⟨rfl, rfl⟩ := ho
                  simp only [Bool.and_eq_true, Bool.not_eq_true'] at hq3
                  obtain ⟨⟨q6, q7⟩, q8⟩ := hq3
                  have q6 : ez = sz := Nat.eq_of_beq_eq_true q6
                  subst q6 q7
                  rcases hc with ⟨ho0, rfl⟩ | ⟨e', o', k', ho0, rfl, hnk, hkk, hoff, hbd⟩
                  · rw [hopn] at ho0; cases ho0
                  · rw [hopn] at ho0; injection ho0 with ho0; subst ho0
                    have hfn : μ H.next = none := hf H.next (Nat.le_refl _) (by simp [newCells])
                    by_cases hin : n + m ≤ k'
                    · -- in place
                      obtain ⟨r1, ccs, et, hh, r2, r3, r4⟩ := h.obj b l _ hμ hg
                      have hnl : new'.length = m * ez := by rw [← hnrel.1]; exact hnlen
                      have hmm : m ≠ 0 := by omega
                      have hne : new' ≠ [] := fun e => by
                        rw [e] at hnl
                        have := Nat.mul_eq_zero.1 hnl.symm
                        omega
                      have hall2 : new'.all Value.oneCell' = true := by
                        rw [List.all_eq_true]
                        intro u hu'
                        obtain ⟨j, hj⟩ := List.getElem?_of_mem hu'
                        have hj' : j < new.length := by rw [hnrel.1]; exact (List.getElem?_eq_some_iff.1 hj).1
                        have hr := hnrel.2 j new[j] u (List.getElem?_eq_getElem hj') hj
                        rw [hr.oneCell]
                        rw [allL_eq] at q8
                        exact List.all_eq_true.1 q8 _ (List.getElem_mem hj')
                      have hbd2 : o' + n * ez + new'.length ≤ ccs.size := by
                        rw [hnl, r2]
                        have : (n + m) * ez ≤ k' * ez := Nat.mul_le_mul_right _ hin
                        rw [Nat.add_mul] at this; omega
                      have hstore := run_storeCells_row (P := P) l.c et new' w ccs (o' + n * ez) 0 hh (by omega) hall2 hne
                      simp only [Nat.add_zero] at hstore
                      have hlsp : (splice ccs.toList (o' + n * ez) new').length = ccs.size := by rw [splice_length _ _ _ (by simpa using hbd2)]; simp
                      have hpost := Post.take h hμ hg rfl hfn ⟨l.c, o', some ez, l.csz⟩ rfl (.cells (appL old new) (some ez) false) (.cells ⟨splice ccs.toList (o' + n * ez) new'⟩ et (0, 0)) (by
                        refine ⟨rfl, _, et, setObjAt_get_same w _ (lt_of_heap hh), by show (splice ccs.toList (o' + n * ez) new').length = _; rw [hlsp, r2], ?_, fun j u hj => ?_⟩
                        · rw [appL_eq, List.length_append, holen, hnlen]
                          show o' + _ ≤ l.csz
                          rw [← r2]; rw [hnl] at hbd2; omega
                        · rw [appL_eq] at hj
                          have mg : ∀ v' : Value, (splice ccs.toList (o' + n * ez) new')[o' + j]? = some v' → (Array.mk (splice ccs.toList (o' + n * ez) new'))[o' + j]? = some v' := fun v' hv => (mk_get _ _).trans hv
                          rw [splice_get _ _ _ _ (by simpa using hbd2)] at mg
                          by_cases hjn : j < n * ez
                          · rw [List.getElem?_append_left (by omega)] at hj
                            rw [if_neg (by omega)] at mg
                            -- an old cell
                            have hn0 : n ≠ 0 := fun e => by subst e; simp at hjn
                            unfold firstL at hold
                            have hbn : Nat.beq n 0 = false := by
                              cases hb0 : Nat.beq n 0 with
                              | false => rfl
                              | true => exact absurd (Nat.eq_of_beq_eq_true hb0) hn0
                            rw [hbn] at hold
                            simp only [cond_false, Heap.loadN, hg, takeL_eq, dropL_eq, lenL_eq] at hold
                            cases hb1 : Nat.beq ((cs.drop o).take (n * ez)).length (n * ez) with
                            | false => rw [hb1] at hold; cases hold
                            | true =>
                              rw [hb1] at hold
                              simp only [cond_true, Option.some.injEq] at hold
                              rw [← hold, List.getElem?_take, if_pos hjn, List.getElem?_drop] at hj
                              obtain ⟨u', hu', hr⟩ := r4 (o + j) u hj
                              refine ⟨u', mg u' ?_, hr.mono (Emb.set_ext _ hfn)⟩
                              have : o' + j = l.sh + (o + j) := by have := hoff (by omega); omega
                              rw [this]; simpa using hu'
                          · rw [List.getElem?_append_right (by omega), holen] at hj
                            obtain ⟨u', hu', hr⟩ := hnrel.get hj
                            have hjl : j - n * ez < new'.length := (List.getElem?_eq_some_iff.1 hu').1
                            rw [if_pos (by omega)] at mg
                            exact ⟨u', mg u' (by rw [← hu']; congr 1; omega), hr.mono (Emb.set_ext _ hfn)⟩)
                      refine ⟨.slice (some ⟨l.c, o', none⟩) (n + m) k', _, _, fits_run (w' := setObjAt w l.c (.cells ⟨splice ccs.toList (o' + n * ez) new'⟩ et (0, 0))) hu hux (fun kk => hni kk) hsz hlen hin hnrun (fun a ha => ?_) (fun e => by cases e), hpost, ?_⟩
                      · injection ha with ha; subst ha
                        rw [Addr_add]; exact hstore
                      · exact VRel.sliceO (μ := μ.set H.next ⟨l.c, o', some ez, l.csz⟩) H.next 0 o' (n + m) (n + m) k' ez ⟨l.c, o', some ez, l.csz⟩ (Emb.set_same _ _ _) rfl (Nat.le_refl _) hin (fun _ => rfl) hbd
                    · -- a new row
                      obtain ⟨nc, hnc, hrun⟩ := grow_run (P := P) (w := w) (ty := ty) hu hux (fun kk => hni kk) hi hss hvz hlen (by omega) q2 (by omega) horun2 hnrun2
                      rw [cells_append] at hrun
                      have hk := Post.kill h hμ hg rfl
                      obtain ⟨l', h1, h2, h3, h4, _, hp⟩ := newRow_sound (P := P) (H := H.put b .dead) hk.wrel.drew hfn e (horel2.append hnrel2) (Builtin.zeroCells vz.cells (nc - (n + m))).toList (some ez) (fun e => by cases e)
                      rw [appL_eq]
                      refine ⟨_, _, _, hrun, (hk.trans (Post.drew hk.wrel) (Nat.le_refl _) (Nat.le_refl _)).trans hp (Nat.le_refl _) (by simp [newCells]), ?_⟩
                      have := VRel.sliceO (μ := μ.set H.next l') H.next 0 0 (n + m) (n + m) nc ez l' (Emb.set_same _ _ _) h3 (Nat.le_refl _) hnc (fun _ => by omega) (by
                        rw [h4, zeroCells_len hvsz, List.length_append, holen, hnlen, Nat.zero_add, ← Nat.add_mul, ← Nat.add_mul]
                        exact Nat.mul_le_mul_right _ (by omega))
                      rw [h1] at this; exact this
        · cases ho
      · cases ho
    · cases ho
  · cases ho
end
end Go.R
