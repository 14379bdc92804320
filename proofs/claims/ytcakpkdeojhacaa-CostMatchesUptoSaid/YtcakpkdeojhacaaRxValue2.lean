/-
  The operations whose effect does not hang on memory, one after the other.
  No condition beyond those that each statement names.
-/
import Derived.Test.YtcakpkdeojhacaaRxValue
namespace Go.R
section
variable {P : Program} {μ : Emb}

theorem build_rel {t : TypeId} {ps ps' : Array (Nat × Value)} {v : Value} (hl : ps.toList.length = ps'.toList.length)
    (hp : ∀ (i : Nat) x x', ps.toList[i]? = some x → ps'.toList[i]? = some x' → x.1 = x'.1 ∧ VRel μ x.2 x'.2)
    (hz : (zeroOf P t).isSome = true) (h : pureRun P (Instr.build t ps) = some v) :
    ∃ v', pureRun P (Instr.build t ps') = some v' ∧ VRel μ v v' := by
  unfold Instr.build at h ⊢
  have hzv : pureRun P (zeroValue t) = (P.info? t).bind (·.zero) := by
    unfold zeroValue
    simp only [pureRun_bind, pureRun_typeInfo]
    cases hi : P.info? t with
    | none => rfl
    | some i => simp only [Option.bind_some]; cases i.zero <;> rfl
  simp only [pureRun_bind, hzv, pureRun_underlying] at h ⊢
  cases hi : (P.info? t).bind (·.zero) with
  | none => rw [hi] at h; simp at h
  | some z =>
    rw [hi] at h
    have hza : LRel μ z.cells.toList z.cells.toList := by
      obtain ⟨zl, hzl⟩ := Option.isSome_iff_exists.1 hz
      obtain ⟨i, v0, h1, h2, h3, h4⟩ := zeroOf_spec (P := P) hzl
      rw [h1] at hi
      simp only [Option.bind_some, h2, Option.some.injEq] at hi
      subst hi
      exact LRel.refl0 (by rw [h3]; exact h4)
    simp only [Option.bind_some] at h ⊢
    cases hu : P.underlying t with
    | none => rw [hu] at h; simp at h
    | some d =>
      rw [hu] at h
      simp only [Option.bind_some] at h ⊢
      cases d with
      | struct fields =>
        simp only [pureRun_bind] at h ⊢
        cases hm : pureRun P (fields.mapM fun f => do let y ← sizeOf f.type; Pure.pure (f.offset, y)) with
        | none => rw [hm] at h; simp at h
        | some places =>
          rw [hm] at h
          simp only [Option.bind_some] at h ⊢
          cases hf : Instr.fill (fun x => places[x]?) z.cells ps.toList with
          | none => rw [hf] at h; simp at h
          | some r =>
            rw [hf] at h
            simp only [pureRun_pure, Option.some.injEq] at h
            subst h
            obtain ⟨r', hr', hrel⟩ := fill_rel _ _ _ _ _ hl hp hza hf
            exact ⟨.agg r', by rw [hr']; rfl, .agg _ _ hrel.1 hrel.2⟩
      | array n e =>
        simp only [pureRun_bind, pureRun_sizeOf] at h ⊢
        cases hs : szOf P e with
        | none => rw [hs] at h; simp at h
        | some sz =>
          rw [hs] at h
          simp only [Option.bind_some] at h ⊢
          cases hf : Instr.fill (fun i => some (i * sz, sz)) z.cells ps.toList with
          | none => rw [hf] at h; simp at h
          | some r =>
            rw [hf] at h
            simp only [pureRun_pure, Option.some.injEq] at h
            subst h
            obtain ⟨r', hr', hrel⟩ := fill_rel _ _ _ _ _ hl hp hza hf
            exact ⟨.agg r', by rw [hr']; rfl, .agg _ _ hrel.1 hrel.2⟩
      | _ => simp at h

theorem asNat_inv {v v' : Value} {n : Nat} (h : asNat v = some n) (hr : VRel μ v v') : ∃ k, v' = .int k (n : Int) := by
  unfold asNat at h
  split at h
  · rename_i k m
    injection h with h; subst h
    exact ⟨k, hr.int_inv⟩
  · cases h

theorem aField_sound {s : TypeId} {x x' : Value} {f : Nat} {v : Value} (h : aField P s x f = some v) (hx : VRel μ x x') :
    ∃ v', (∀ w, (Instr.fieldAt s x' f).run P w = .ok v' w) ∧ VRel μ v v' := by
  unfold aField at h
  split at h
  · rename_i fs b o hu
    split at h
    · rename_i fd hf
      split at h
      · rename_i n hn
        cases hq : Nat.beq n 0 with
        | true => rw [hq] at h; cases h
        | false =>
          rw [hq] at h; simp only [cond_false, Option.some.injEq] at h; subst h
          obtain ⟨l, hb, rfl⟩ := hx.ptr_inv
          have hne : ¬ n = 0 := fun e => by subst e; cases hq
          refine ⟨_, fun w => ?_, Nat.add_assoc l.sh o fd.offset ▸ VRel.ptr b (o + fd.offset) l hb⟩
          simp [Instr.fieldAt, run_underlying' w hu, hf, Instr.sureAddr, fieldPlace, run_sizeOf' w hn, hne, Addr_add, Nat.add_assoc]
      · cases h
    · cases h
  · cases h

theorem aIndexAddr_sound {t : TypeId} {x x' i i' : Value} {v : Value} (h : aIndexAddr P t x i = some v) (hx : VRel μ x x') (hi : VRel μ i i') :
    ∃ v', (∀ w, (Instr.indexAt t x' i').run P w = .ok v' w) ∧ VRel μ v v' := by
  unfold aIndexAddr at h
  split at h
  · rename_i e b o n k j hu hj
    obtain ⟨ik, rfl⟩ := asNat_inv hj hi
    split at h
    · rename_i sz hs
      cases hq : (Nat.ble (j + 1) n && Nat.ble n k) with
      | false => rw [hq] at h; cases h
      | true =>
        rw [hq] at h; simp only [cond_true, Option.some.injEq] at h; subst h
        simp only [Bool.and_eq_true] at hq
        have h1 : j + 1 ≤ n := Nat.le_of_ble_eq_true hq.1
        have h2 : n ≤ k := Nat.le_of_ble_eq_true hq.2
        obtain ⟨l, hb, hc⟩ := hx.slice_inv
        have hrel : VRel μ (.pointer (some ⟨b, o + j * sz, none⟩)) (.pointer (some ⟨l.c, l.sh + o + j * sz, none⟩)) :=
          Nat.add_assoc l.sh o (j * sz) ▸ VRel.ptr b (o + j * sz) l hb
        have hlt : (j : Int) < (n : Int) := by omega
        rcases hc with ⟨_, rfl⟩ | ⟨e', o', k', _, rfl, _, _, hoff, _⟩
        · refine ⟨_, fun w => ?_, hrel⟩
          simp [Instr.indexAt, asIntOf, run_underlying' w hu, run_sizeOf' w hs, Addr_add]
          omega
        · have ho : o' = l.sh + o := hoff (by omega)
          subst ho
          refine ⟨_, fun w => ?_, hrel⟩
          simp [Instr.indexAt, asIntOf, run_underlying' w hu, run_sizeOf' w hs, Addr_add]
          omega
    · cases h
  · rename_i n e b o j hu hj
    obtain ⟨ik, rfl⟩ := asNat_inv hj hi
    split at h
    · rename_i sz hs
      cases hq : Nat.ble (j + 1) n with
      | false => rw [hq] at h; cases h
      | true =>
        rw [hq] at h; simp only [cond_true, Option.some.injEq] at h; subst h
        have h1 : j + 1 ≤ n := Nat.le_of_ble_eq_true hq
        obtain ⟨l, hb, rfl⟩ := hx.ptr_inv
        refine ⟨_, fun w => ?_, Nat.add_assoc l.sh o (j * sz) ▸ VRel.ptr b (o + j * sz) l hb⟩
        have hlt : (j : Int) < (n : Int) := by omega
        have h0 : (0 : Int) ≤ (j : Int) ∧ (j : Int) < (n : Int) := ⟨by omega, hlt⟩
        simp only [Instr.indexAt, asIntOf, run_underlying' w hu, run_sizeOf' w hs, Addr_add, Instr.sureAddr, Sem.run_bind, Sem.run_pure, Result.andThen_ok, if_pos h0, Int.toNat_natCast]
    · cases h
  · cases h

theorem strIndex_run {t : TypeId} {s : ByteArray} {k : IntKind} {j : Nat} {b : UInt8} (hu : P.underlying t = some .string) (hb : s.data.toList[j]? = some b) (w : World) :
    (Instr.index t (.string s) (.int k (j : Int))).run P w = .ok (.int .u8 b.toNat) w := by
  have hlt : j < s.size := by
    have := (List.getElem?_eq_some_iff.1 hb).1; simpa using this
  have hg : s[j]? = some b := by
    rw [getElem?_pos s j hlt]
    have := (List.getElem?_eq_some_iff.1 hb).2
    rw [← this]; rfl
  simp [Instr.index, asIntOf, run_underlying' w hu, hg]

theorem agg_args {ops : Array Operand} {ρ ρ' : Operand → Value} (h : ∀ x ∈ ops, VRel μ (ρ x) (ρ' x)) : LRel μ (ops.map ρ).toList (ops.map ρ').toList := by
  refine ⟨by simp, fun i v v' h1 h2 => ?_⟩
  simp only [Array.toList_map, List.getElem?_map, Option.map_eq_some_iff] at h1 h2
  obtain ⟨x, hx, rfl⟩ := h1
  obtain ⟨y, hy, rfl⟩ := h2
  rw [hx] at hy; injection hy with hy; subst hy
  exact h x (by simpa using List.mem_of_getElem? hx)

theorem aFieldV_sound {t : TypeId} {x x' : Value} {f : Nat} {v : Value} (h : aFieldV P t x f = some v) (hx : VRel μ x x') :
    ∃ v', (∀ w, (Instr.field t x' f).run P w = .ok v' w) ∧ VRel μ v v' := by
  unfold aFieldV at h
  split at h
  · rename_i cs
    split at h
    · rename_i g n off hf
      have hp : pureRun P (Instr.field t (.agg cs) f) = some v := by
        unfold fieldAt? at hf
        split at hf
        · rename_i fs hu
          split at hf
          · rename_i fd hfd
            split at hf
            · rename_i g' n' hg hn
              simp only [Option.some.injEq, Prod.mk.injEq] at hf
              obtain ⟨rfl, rfl, rfl⟩ := hf
              unfold Instr.field part
              simp only [pureRun_bind, pureRun_underlying, hu, Option.bind_some, hfd, asAgg, pureRun_pure, pureRun_isAgg, hg]
              unfold partL at h
              cases g' with
              | true =>
                simp only [cond_true, Option.some.injEq, takeL_eq, dropL_eq] at h
                simp only [if_true, pureRun_bind, pureRun_sizeOf, hn, Option.bind_some, pureRun_pure, Option.some.injEq]
                subst h
                congr 1
                apply Array.ext'
                simp [List.drop_take]
              | false =>
                simp only [cond_false, nth_eq] at h
                simp only [Bool.false_eq_true, if_false]
                have hc : cs[fd.offset]? = some v := by simpa using h
                rw [hc]; rfl
            · cases hf
          · cases hf
        · cases hf
      obtain ⟨v', hv', hr⟩ := field_rel hx hp
      exact ⟨v', fun w => pureRun_run P hv' w, hr⟩
    · cases h
  · cases h

theorem ovl_inv {r : Option Value} {H H' : Heap} {n : AN} (h : ovl r H = some (n, H')) : H' = H ∧ ∃ v, r = some v ∧ n = .val v := by
  unfold ovl at h
  split at h
  · rename_i v
    simp only [Option.some.injEq, Prod.mk.injEq] at h
    exact ⟨h.2.symm, v, rfl, h.1.symm⟩
  · cases h

theorem nilBin_inv {op : BinOp} {r : Option Bool} {H H' : Heap} {n : AN} (h : nilBin op r H = some (n, H')) :
    H' = H ∧ ∃ b, r = some b ∧ ((op = .eql ∧ n = .val (.bool b)) ∨ (op = .neq ∧ n = .val (.bool (!b)))) := by
  unfold nilBin at h
  split at h
  · rename_i b
    split at h
    · simp only [Option.some.injEq, Prod.mk.injEq] at h
      exact ⟨h.2.symm, b, rfl, .inl ⟨rfl, h.1.symm⟩⟩
    · simp only [Option.some.injEq, Prod.mk.injEq] at h
      exact ⟨h.2.symm, b, rfl, .inr ⟨rfl, h.1.symm⟩⟩
    · cases h
  · cases h

/-- THE STEP: a value operation. -/
theorem value_sound {ρ ρ' : Operand → Value} {o : Oper} {H H' : Heap} {r : AN} (hk : valueKind o.op = true)
    (hρ : ∀ x ∈ o.op.operands, VRel μ (ρ x) (ρ' x)) (h : aop P ρ o H = some (r, H')) :
    H' = H ∧ ∃ v v', r = .val v ∧ (∀ w, (execOp ρ' o).run P w = .ok (.value v') w) ∧ VRel μ v v' := by
  obtain ⟨dst, op, type, pos, after, guard⟩ := o
  cases op <;> simp only [valueKind, Bool.false_eq_true] at hk
  case move x =>
    simp only [aop, Option.some.injEq, Prod.mk.injEq] at h
    obtain ⟨rfl, rfl⟩ := h
    exact ⟨rfl, _, ρ' x, rfl, fun w => rfl, hρ x (by simp [Op.operands])⟩
  case assign x =>
    simp only [aop, Option.some.injEq, Prod.mk.injEq] at h
    obtain ⟨rfl, rfl⟩ := h
    exact ⟨rfl, _, ρ' x, rfl, fun w => rfl, hρ x (by simp [Op.operands])⟩
  case pick c a b =>
    simp only [aop, opPick] at h
    split at h
    · rename_i t ht
      simp only [Option.some.injEq, Prod.mk.injEq] at h
      obtain ⟨rfl, rfl⟩ := h
      have hc : ρ' c = .bool t := by have := hρ c (by simp [Op.operands]); rw [ht] at this; exact this.bool_inv
      refine ⟨rfl, _, (if t then ρ' a else ρ' b), rfl, fun w => ?_, ?_⟩
      · simp [execOp, hc, asBool]
      · cases t
        · exact hρ b (by simp [Op.operands])
        · exact hρ a (by simp [Op.operands])
    · cases h
  case build t parts =>
    simp only [aop, opBuild] at h
    split at h
    case h_2 => cases h
    rename_i z hz
    obtain ⟨rfl, v, rfl, hv⟩ := lift_spec h
    obtain ⟨v', hv', hr⟩ := build_rel (μ := μ) (ps := parts.map fun p => (p.1, ρ p.2)) (ps' := parts.map fun (i, x) => (i, ρ' x)) (by simp) (fun i x x' h1 h2 => by
      simp only [Array.toList_map, List.getElem?_map, Option.map_eq_some_iff] at h1 h2
      obtain ⟨y, hy, rfl⟩ := h1
      obtain ⟨z, hz, rfl⟩ := h2
      rw [hy] at hz; injection hz with hz; subst hz
      refine ⟨rfl, hρ _ ?_⟩
      have := List.mem_of_getElem? hy
      simp only [Op.operands, List.mem_toArray, List.mem_map]
      exact ⟨y, this, rfl⟩) (by rw [hz]; rfl) hv
    exact ⟨rfl, v, v', rfl, fun w => by simp only [execOp, Sem.run_bind, pureRun_run P hv' w, Result.andThen_ok, Sem.run_pure], hr⟩
  case nilCheck x =>
    simp only [aop, opNil] at h
    split at h
    · rename_i a ha
      simp only [Option.some.injEq, Prod.mk.injEq] at h
      obtain ⟨rfl, rfl⟩ := h
      have hx := hρ x (by simp [Op.operands])
      rw [ha] at hx
      obtain ⟨_, a', ha'⟩ := hx.ptr_some
      exact ⟨rfl, _, ρ' x, rfl, fun w => by simp [execOp, ha'], hx⟩
    · rename_i f a c ha
      simp only [Option.some.injEq, Prod.mk.injEq] at h
      obtain ⟨rfl, rfl⟩ := h
      have hx := hρ x (by simp [Op.operands])
      rw [ha] at hx
      obtain ⟨a', c', hf', _, _⟩ := hx.func_inv
      exact ⟨rfl, _, ρ' x, rfl, fun w => by simp [execOp, hf'], hx⟩
    · cases h
  case binOp op t x y yt =>
    have hx := hρ x (by simp [Op.operands])
    have hy := hρ y (by simp [Op.operands])
    simp only [aop, aBin] at h
    split at h
    · rename_i k a ha
      rw [ha] at hx
      unfold binInt at h
      split at h
      · rename_i k' b hb
        rw [hb] at hy
        obtain ⟨rfl, v, hv, rfl⟩ := ovl_inv h
        have key : ∀ w, (binOp op t (.int k a) (.int k' b)).run P w = .ok v w ∧ noA0 v = true := by
          intro w
          cases hs : isShift op with
          | true => rw [hs] at hv; exact shBin_sound hv t w
          | false =>
            rw [hs] at hv
            simp only [cond_false] at hv
            cases he : kindEq k k' with
            | false => rw [he] at hv; cases hv
            | true =>
              rw [he] at hv
              have : k = k' := by simpa [kindEq] using he
              subst this
              exact intBin_sound hv t w
        refine ⟨rfl, v, v, rfl, fun w => ?_, .atom v (key default).2⟩
        simp only [execOp, hx.int_inv, hy.int_inv, eqGuard_at_int, pure_bind, Sem.run_bind, (key w).1, Result.andThen_ok, Sem.run_pure]
      · cases h
    · rename_i a ha
      rw [ha] at hx
      unfold binStr at h
      split at h
      · rename_i b hb
        rw [hb] at hy
        obtain ⟨rfl, v, hv, rfl⟩ := ovl_inv h
        refine ⟨rfl, v, v, rfl, fun w => ?_, .atom v (strOp_sound (P := P) (t := t) hv default).2⟩
        simp only [execOp, hx.string_inv, hy.string_inv, eqGuard_at_string, pure_bind, Sem.run_bind, (strOp_sound (P := P) (t := t) hv w).1, Result.andThen_ok, Sem.run_pure]
      · cases h
    · unfold binRest at h
      split at h
      · exact plainOp_sound h (fun _ _ => by simp) hρ
      · exact plainOp_sound h (fun _ _ => by simp) hρ
      · obtain ⟨rfl, b, hb, hcase⟩ := nilBin_inv h
        rcases hcase with ⟨rfl, rfl⟩ | ⟨rfl, rfl⟩
        · refine ⟨rfl, _, _, rfl, fun w => ?_, .atom (.bool b) rfl⟩
          obtain ⟨h1, h2, h3⟩ := nilEq_sound (P := P) hb hx hy w
          simp only [execOp, h2, pure_bind, h3 .eql (.inl rfl), Sem.run_bind, h1, Result.andThen_ok, Sem.run_pure]
        · refine ⟨rfl, _, _, rfl, fun w => ?_, .atom (.bool (!b)) rfl⟩
          obtain ⟨h1, h2, h3⟩ := nilEq_sound (P := P) hb hx hy w
          simp only [execOp, h2, pure_bind, h3 .neq (.inr rfl), Sem.run_bind, h1, Result.andThen_ok, Sem.run_pure]
  case unOp op t x =>
    have hx := hρ x (by simp [Op.operands])
    simp only [aop, aUn] at h
    split at h
    · rename_i b hb
      rw [hb] at hx
      split at h
      · simp only [Option.some.injEq, Prod.mk.injEq] at h
        obtain ⟨rfl, rfl⟩ := h
        exact ⟨rfl, _, _, rfl, fun w => by simp [execOp, hx.bool_inv, Op.unary], .atom (.bool (!b)) rfl⟩
      · cases h
    · exact plainOp_sound h (fun _ _ => by simp) hρ
  case makeFunc fn first captured =>
    simp only [aop, Option.some.injEq, Prod.mk.injEq] at h
    obtain ⟨rfl, rfl⟩ := h
    have h1 := agg_args (μ := μ) (ops := first) (ρ := ρ) (ρ' := ρ') fun x hx => hρ x (by simp [Op.operands, hx])
    have h2 := agg_args (μ := μ) (ops := captured) (ρ := ρ) (ρ' := ρ') fun x hx => hρ x (by simp [Op.operands, hx])
    exact ⟨rfl, _, _, rfl, fun w => rfl, .func _ _ _ _ _ h1.1 h2.1 h1.2 h2.2⟩
  case fieldAddr s x f =>
    simp only [aop] at h
    obtain ⟨rfl, v, hv, rfl⟩ := ovl_inv h
    obtain ⟨v', hv', hr⟩ := aField_sound hv (hρ x (by simp [Op.operands]))
    exact ⟨rfl, v, v', rfl, fun w => by simp only [execOp, Sem.run_bind, hv' w, Result.andThen_ok, Sem.run_pure], hr⟩
  case field t x f =>
    simp only [aop] at h
    obtain ⟨rfl, v, hv, rfl⟩ := ovl_inv h
    obtain ⟨v', hv', hr⟩ := aFieldV_sound hv (hρ x (by simp [Op.operands]))
    exact ⟨rfl, v, v', rfl, fun w => by simp only [execOp, Sem.run_bind, hv' w, Result.andThen_ok, Sem.run_pure], hr⟩
  case indexAddr t x i =>
    simp only [aop] at h
    obtain ⟨rfl, v, hv, rfl⟩ := ovl_inv h
    obtain ⟨v', hv', hr⟩ := aIndexAddr_sound hv (hρ x (by simp [Op.operands])) (hρ i (by simp [Op.operands]))
    exact ⟨rfl, v, v', rfl, fun w => by simp only [execOp, Sem.run_bind, hv' w, Result.andThen_ok, Sem.run_pure], hr⟩
  case index t x i =>
    have hx := hρ x (by simp [Op.operands])
    have hi := hρ i (by simp [Op.operands])
    simp only [aop, aIndex] at h
    split at h
    · rename_i s hs
      rw [hs] at hx
      obtain ⟨rfl, v, hv, rfl⟩ := ovl_inv h
      unfold strAt at hv
      split at hv
      · rename_i j hu hj
        obtain ⟨k, hk⟩ := asNat_inv hj hi
        rw [nth_eq] at hv
        split at hv
        · rename_i b hb
          injection hv with hv; subst hv
          exact ⟨rfl, _, _, rfl, fun w => by simp only [execOp, hx.string_inv, hk, Sem.run_bind, strIndex_run hu hb w, Result.andThen_ok, Sem.run_pure], .atom _ rfl⟩
        · cases hv
      · cases hv
    · rename_i hns
      obtain ⟨rfl, v, rfl, hv⟩ := lift_spec h
      obtain ⟨v', hv', hr⟩ := index_rel hx hi (fun s hs => hns s hs) hv
      exact ⟨rfl, v, v', rfl, fun w => by simp only [execOp, Sem.run_bind, pureRun_run P hv' w, Result.andThen_ok, Sem.run_pure], hr⟩
  case extract x i =>
    simp only [aop] at h
    have hx := hρ x (by simp [Op.operands])
    obtain ⟨rfl, v, hv, rfl⟩ := ovl_inv h
    unfold aExtract at hv
    split at hv
    · rename_i vs hvs
      rw [hvs] at hx
      obtain ⟨vs', hvs', hr⟩ := hx.tuple_inv
      rw [nth_eq] at hv
      obtain ⟨v', hv', hrel⟩ := hr.get hv
      have hg : vs'[i]? = some v' := by simpa using hv'
      exact ⟨rfl, v, v', rfl, fun w => by simp [execOp, hvs', Instr.extract, hg], hrel⟩
    · cases hv
end
end Go.R
