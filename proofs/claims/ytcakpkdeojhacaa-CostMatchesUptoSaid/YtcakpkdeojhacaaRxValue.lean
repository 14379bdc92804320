/-
  The operations whose effect does not hang on memory: related operands give related values, in every world.
  No condition beyond those that each statement names.
-/
import Derived.Test.YtcakpkdeojhacaaRxOps
namespace Go.R

def ANRel (μ : Emb) : AN → Next → Prop
  | .val v, .value v' => VRel μ v v'
  | .skip, .skip => True
  | .enter f args, .enter f' args' => f = f' ∧ LRel μ args args'.toList
  | _, _ => False

theorem bytes_toList_loop (bs : ByteArray) : ∀ (n i : Nat) (r : List UInt8), bs.size - i = n → ByteArray.toList.loop bs i r = r.reverse ++ bs.data.toList.drop i := by
  intro n
  induction n with
  | zero =>
    intro i r h
    rw [ByteArray.toList.loop, if_neg (by omega), List.drop_eq_nil_of_le (by simp only [Array.length_toList, ByteArray.size_data]; omega), List.append_nil]
  | succ n ih =>
    intro i r h
    have hi : i < bs.size := by omega
    rw [ByteArray.toList.loop, if_pos hi, ih (i + 1) _ (by omega)]
    have hi' : i < bs.data.toList.length := by simpa using hi
    rw [List.drop_eq_getElem_cons hi']
    simp [ByteArray.get!, hi]
theorem bytes_toList (bs : ByteArray) : bs.toList = bs.data.toList := by
  unfold ByteArray.toList
  rw [bytes_toList_loop bs _ 0 [] rfl]; simp

section
variable {P : Program} {μ : Emb}

theorem plainOp_sound {ρ ρ' : Operand → Value} {o : Oper} {H H' : Heap} {r : AN} (h : plainOp P ρ o H = some (r, H')) (hs : ∀ cs b, o.op ≠ .select cs b)
    (hρ : ∀ x ∈ o.op.operands, VRel μ (ρ x) (ρ' x)) : H' = H ∧ ∃ v v', r = .val v ∧ (∀ w, (execOp ρ' o).run P w = .ok (.value v') w) ∧ VRel μ v v' := by
  unfold plainOp at h
  cases hq : o.op.operands.toList.all fun x => noA1 (ρ x) with
  | false => rw [hq] at h; cases h
  | true =>
    rw [hq] at h
    have he : execOp ρ' o = execOp ρ o := execOp_congr o hs fun x hx => (hρ x hx).eq1 (List.all_eq_true.1 hq x (by simpa using hx))
    simp only [cond_true] at h
    split at h
    · rename_i v hv
      cases hn : noA2 v with
      | false => rw [hn] at h; cases h
      | true =>
        rw [hn] at h; simp only [cond_true, Option.some.injEq, Prod.mk.injEq] at h
        obtain ⟨rfl, rfl⟩ := h
        exact ⟨rfl, v, v, rfl, fun w => by rw [he]; exact pureRun_run P hv w, VRel.refl2 hn⟩
    · cases h

theorem lift_spec {s : Sem Value} {H H' : Heap} {r : AN} (h : lift P s H = some (r, H')) : H' = H ∧ ∃ v, r = .val v ∧ pureRun P s = some v := by
  unfold lift at h
  split at h
  · rename_i v hv
    simp only [Option.some.injEq, Prod.mk.injEq] at h
    exact ⟨h.2.symm, v, h.1.symm, hv⟩
  · cases h

theorem intBin_sound {op : BinOp} {k : IntKind} {a b : Int} {v : Value} (h : intBin op k a b = some v) (t : TypeId) (w : World) :
    (binOp op t (.int k a) (.int k b)).run P w = .ok v w ∧ noA0 v = true := by
  cases op <;> simp only [intBin, Option.some.injEq, reduceCtorEq] at h
  case quo =>
    cases hb : (b == 0) with
    | true => rw [hb] at h; cases h
    | false =>
      rw [hb] at h; simp only [cond_false, Option.some.injEq] at h; subst h
      have hne : ¬ b = 0 := by simpa using hb
      simp [binOp_quo, Op.intDiv, hne, noA0]
  case rem =>
    cases hb : (b == 0) with
    | true => rw [hb] at h; cases h
    | false =>
      rw [hb] at h; simp only [cond_false, Option.some.injEq] at h; subst h
      have hne : ¬ b = 0 := by simpa using hb
      simp [binOp_rem, Op.intDiv, hne, noA0]
  all_goals subst h
  case add => simp [binOp_add, Op.intArith, noA0]
  case sub => simp [binOp_sub, Op.intArith, noA0]
  case mul => simp [binOp_mul, Op.intArith, noA0]
  case and => simp [binOp_and, intBits_and, noA0, bitsOf]
  case or => simp [binOp_or, intBits_or, noA0, bitsOf]
  case xor => simp [binOp_xor, intBits_xor, noA0, bitsOf]
  case andNot => simp [binOp_andNot, intBits_andNot, noA0, bitsOf]
  case eql => simp [binOp_eql, noA0]
  case neq => simp [binOp_neq, noA0]
  case lss => simp [binOp_lss, noA0]
  case leq => simp [binOp_leq, noA0]
  case gtr => simp [binOp_gtr, noA0]
  case geq => simp [binOp_geq, noA0]

theorem shBin_sound {op : BinOp} {k yk : IntKind} {a b : Int} {v : Value} (h : shBin op k a b = some v) (t : TypeId) (w : World) :
    (binOp op t (.int k a) (.int yk b)).run P w = .ok v w ∧ noA0 v = true := by
  cases op <;> simp only [shBin, reduceCtorEq] at h
  all_goals
    cases b with
    | negSucc n => simp [shiftN] at h
    | ofNat n =>
      simp only [shiftN, Option.some.injEq] at h; subst h
      have hn : ¬ ((n : Int) < 0) := by omega
      simp [binOp_shl, binOp_shr, Op.shift, hn, noA0, Nat.min_def]

theorem strOp_sound {op : BinOp} {t : TypeId} {a b : ByteArray} {v : Value} (h : strOp op a b = some v) (w : World) :
    (binOp op t (.string a) (.string b)).run P w = .ok v w ∧ noA0 v = true := by
  have hb : binOp op t (.string a) (.string b) = Op.stringOp op a b := by cases op <;> rfl
  rw [hb]
  unfold strOp at h
  split at h
  · injection h with h; subst h; simp [Op.stringOp, bytes_toList, bytesEq, noA0]
  · injection h with h; subst h; simp [Op.stringOp, bytes_toList, bytesEq, noA0]
  · injection h with h; subst h; simp [Op.stringOp, bytes_toList, noA0]
  · injection h with h; subst h; simp [Op.stringOp, bytes_toList, bytesEq, noA0]
  · injection h with h; subst h; simp [Op.stringOp, bytes_toList, bytesEq, noA0]
  · injection h with h; subst h; simp [Op.stringOp, bytes_toList, noA0]
  · simp only [appL_eq, lenL_eq] at h
    cases hq : Nat.ble (a.data.toList ++ b.data.toList).length 1099511627776 with
    | false => rw [hq] at h; cases h
    | true =>
      rw [hq] at h; simp only [cond_true, Option.some.injEq] at h; subst h
      have hle := Nat.le_of_ble_eq_true hq
      simp only [List.length_append, Array.length_toList, ByteArray.size_data] at hle
      refine ⟨?_, rfl⟩
      have hn : ¬ (((a.size + b.size : Nat) : Int) > IntKind.i64.max) := by rw [IntKind.max_i64]; omega
      simp only [Op.stringOp, if_neg hn, Sem.run_pure]
      congr 2
  · cases h

theorem isNone_ptr {a : Option Addr} {v' : Value} (h : VRel μ (.pointer a) v') : ∃ a', v' = .pointer a' ∧ a'.isNone = a.isNone := by
  cases h with
  | atom _ h0 => exact ⟨a, rfl, rfl⟩
  | ptr b o l hb => exact ⟨_, rfl, rfl⟩
theorem isNone_slice {a : Option Addr} {n k : Nat} {v' : Value} (h : VRel μ (.slice a n k) v') : ∃ a' k', v' = .slice a' n k' ∧ a'.isNone = a.isNone := by
  cases h with
  | atom _ h0 => exact ⟨a, k, rfl, rfl⟩
  | sliceC b o n k l hb ho => exact ⟨_, _, rfl, rfl⟩
  | sliceO b o o' n k k' e l hb ho h1 h2 h3 h4 => exact ⟨_, _, rfl, rfl⟩
theorem isNone_map {a : Option Nat} {v' : Value} (h : VRel μ (.map a) v') : ∃ a', v' = .map a' ∧ a'.isNone = a.isNone := by
  cases h with
  | atom _ h0 => exact ⟨a, rfl, rfl⟩
  | map b l hb => exact ⟨_, rfl, rfl⟩

theorem eq_of_in {t : TypeId} {x y : Value} {w : World} {b : Bool} (h : ∀ d, (Op.equalIn (d + 1) t x y).run P w = .ok b w) : (Op.equal t x y).run P w = .ok b w := h 9999
theorem nilEq_sound {t : TypeId} {x y x' y' : Value} {b : Bool} (h : nilEq P t x y = some b) (hx : VRel μ x x') (hy : VRel μ y y') (w : World) :
    (Op.equal t x' y').run P w = .ok b w ∧ (∀ op u v, eqGuard op t u v x' y' = pure ()) ∧ (∀ op, op = .eql ∨ op = .neq → binOp op t x' y' = (match op with
      | .eql => do pure (.bool (← Op.equal t x' y'))
      | _ => do pure (.bool (!(← Op.equal t x' y'))))) := by
  unfold nilEq at h
  split at h
  · rename_i e b0 hu
    obtain rfl := hx.eq0 rfl
    obtain ⟨b', rfl, hb⟩ := isNone_ptr hy
    injection h with h; subst h
    refine ⟨?_, fun op u v => by cases op <;> rfl, fun op ho => by rcases ho with rfl | rfl <;> rfl⟩
    exact eq_of_in fun d => by simp [Op.equalIn, run_underlying' w hu, hb]
  · rename_i e a0 hu
    obtain rfl := hy.eq0 rfl
    obtain ⟨a', rfl, ha⟩ := isNone_ptr hx
    injection h with h; subst h
    refine ⟨?_, fun op u v => by cases op <;> rfl, fun op ho => by rcases ho with rfl | rfl <;> rfl⟩
    exact eq_of_in fun d => by cases a' <;> simp [Op.equalIn, run_underlying' w hu, ← ha]
  · rename_i e n k b0 n2 k2 hu
    obtain ⟨rfl, rfl, rfl⟩ := hx.sliceNil_inv
    obtain ⟨b', k', rfl, hb⟩ := isNone_slice hy
    injection h with h; subst h
    refine ⟨?_, fun op u v => by cases op <;> rfl, fun op ho => by rcases ho with rfl | rfl <;> rfl⟩
    exact eq_of_in fun d => by simp [Op.equalIn, run_underlying' w hu, hb]
  · rename_i e a0 n k n2 k2 hu
    obtain ⟨rfl, rfl, rfl⟩ := hy.sliceNil_inv
    obtain ⟨a', k', rfl, ha⟩ := isNone_slice hx
    injection h with h; subst h
    refine ⟨?_, fun op u v => by cases op <;> rfl, fun op ho => by rcases ho with rfl | rfl <;> rfl⟩
    exact eq_of_in fun d => by cases a' <;> simp [Op.equalIn, run_underlying' w hu, ← ha]
  · rename_i e1 e2 b0 hu
    obtain rfl := hx.eq0 rfl
    obtain ⟨b', rfl, hb⟩ := isNone_map hy
    injection h with h; subst h
    refine ⟨?_, fun op u v => by cases op <;> rfl, fun op ho => by rcases ho with rfl | rfl <;> rfl⟩
    exact eq_of_in fun d => by simp [Op.equalIn, run_underlying' w hu, hb]
  · rename_i e1 e2 a0 hu
    obtain rfl := hy.eq0 rfl
    obtain ⟨a', rfl, ha⟩ := isNone_map hx
    injection h with h; subst h
    refine ⟨?_, fun op u v => by cases op <;> rfl, fun op ho => by rcases ho with rfl | rfl <;> rfl⟩
    exact eq_of_in fun d => by cases a' <;> simp [Op.equalIn, run_underlying' w hu, ← ha]
  · rename_i ps rs va hu
    obtain rfl := hx.eq0 rfl
    obtain rfl := hy.eq0 rfl
    injection h with h; subst h
    refine ⟨?_, fun op u v => by cases op <;> rfl, fun op ho => by rcases ho with rfl | rfl <;> rfl⟩
    exact eq_of_in fun d => by simp [Op.equalIn, run_underlying' w hu]
  · rename_i ps rs va fn xs ys hu
    obtain rfl := hx.eq0 rfl
    obtain ⟨xs', ys', rfl, _, _⟩ := hy.func_inv
    injection h with h; subst h
    refine ⟨?_, fun op u v => by cases op <;> rfl, fun op ho => by rcases ho with rfl | rfl <;> rfl⟩
    exact eq_of_in fun d => by simp [Op.equalIn, run_underlying' w hu]
  · rename_i ps rs va fn xs ys hu
    obtain rfl := hy.eq0 rfl
    obtain ⟨xs', ys', rfl, _, _⟩ := hx.func_inv
    injection h with h; subst h
    refine ⟨?_, fun op u v => by cases op <;> rfl, fun op ho => by rcases ho with rfl | rfl <;> rfl⟩
    exact eq_of_in fun d => by simp [Op.equalIn, run_underlying' w hu]
  · cases h

/-! Parts of structs and arrays. -/
theorem part_rel {t : TypeId} {cs cs' : Array Value} {off : Nat} {v : Value} (hr : LRel μ cs.toList cs'.toList) (h : pureRun P (part t cs off) = some v) :
    ∃ v', pureRun P (part t cs' off) = some v' ∧ VRel μ v v' := by
  unfold part at h ⊢
  simp only [pureRun_bind, pureRun_isAgg] at h ⊢
  cases hg : aggOf P t with
  | none => rw [hg] at h; simp at h
  | some g =>
    rw [hg] at h
    cases g with
    | true =>
      simp only [Option.bind_some, if_true, pureRun_bind, pureRun_sizeOf] at h ⊢
      cases hs : szOf P t with
      | none => rw [hs] at h; simp at h
      | some n =>
        rw [hs] at h
        simp only [Option.bind_some, pureRun_pure, Option.some.injEq] at h ⊢
        subst h
        refine ⟨_, rfl, ?_⟩
        have := (hr.take (off + n)).drop off
        have ex : ∀ c : Array Value, (c.extract off (off + n)).toList = (c.toList.take (off + n)).drop off := fun c => by simp [List.drop_take]
        exact .agg _ _ (by rw [ex, ex]; exact this.1) (by rw [ex, ex]; exact this.2)
    | false =>
      simp only [Option.bind_some, Bool.false_eq_true, if_false] at h ⊢
      cases hc : cs[off]? with
      | none => rw [hc] at h; simp at h
      | some u =>
        rw [hc] at h
        simp only [pureRun_pure, Option.some.injEq] at h; subst h
        obtain ⟨v', hv', hrel⟩ := hr.get (i := off) (v := u) (by simpa using hc)
        refine ⟨v', ?_, hrel⟩
        have : cs'[off]? = some v' := by simpa using hv'
        rw [this]; rfl

theorem field_rel {t : TypeId} {x x' : Value} {f : Nat} {v : Value} (hx : VRel μ x x') (h : pureRun P (Instr.field t x f) = some v) :
    ∃ v', pureRun P (Instr.field t x' f) = some v' ∧ VRel μ v v' := by
  unfold Instr.field at h ⊢
  simp only [pureRun_bind, pureRun_underlying] at h ⊢
  cases hu : P.underlying t with
  | none => rw [hu] at h; simp at h
  | some d =>
    rw [hu] at h
    simp only [Option.bind_some] at h ⊢
    cases d with
    | struct fields =>
      simp only at h ⊢
      cases hf : fields[f]? with
      | none => rw [hf] at h; simp at h
      | some fd =>
        rw [hf] at h
        simp only [pureRun_bind] at h ⊢
        cases x with
        | agg cs =>
          obtain ⟨cs', rfl, hr⟩ := hx.agg_inv
          simp only [asAgg, pureRun_pure, Option.bind_some] at h ⊢
          exact part_rel hr h
        | _ => simp [asAgg] at h
    | _ => simp at h

theorem index_rel {t : TypeId} {x x' i i' : Value} {v : Value} (hx : VRel μ x x') (hi : VRel μ i i') (hns : ∀ s, x ≠ .string s) (h : pureRun P (Instr.index t x i) = some v) :
    ∃ v', pureRun P (Instr.index t x' i') = some v' ∧ VRel μ v v' := by
  cases i with
  | int k n =>
    obtain rfl := hi.int_inv
    unfold Instr.index at h ⊢
    simp only [asIntOf, pureRun_bind, pureRun_pure, Option.bind_some, pureRun_underlying] at h ⊢
    cases hu : P.underlying t with
    | none => rw [hu] at h; simp at h
    | some d =>
      rw [hu] at h
      simp only [Option.bind_some] at h ⊢
      cases d with
      | array len e =>
        cases x with
        | agg cs =>
          obtain ⟨cs', rfl, hr⟩ := hx.agg_inv
          simp only at h ⊢
          by_cases hb : 0 ≤ n ∧ n < (len : Int)
          · rw [if_pos hb] at h ⊢
            simp only [pureRun_bind, pureRun_sizeOf] at h ⊢
            cases hs : szOf P e with
            | none => rw [hs] at h; simp at h
            | some sz => rw [hs] at h; simp only [Option.bind_some] at h ⊢; exact part_rel hr h
          · rw [if_neg hb, pureRun_boundsPanic] at h; cases h
        | _ => simp at h
      | string =>
        cases x with
        | string s => exact absurd rfl (hns s)
        | _ => simp at h
      | _ => simp at h
  | pointer a => cases a <;> simp [Instr.index, asIntOf] at h
  | _ => simp [Instr.index, asIntOf] at h

theorem foldl_set_rel : ∀ (l l' : List Value) (s off : Nat) (A A' : Array Value), LRel μ l l' → LRel μ A.toList A'.toList →
    LRel μ ((l.zipIdx s).foldl (fun cs p => cs.setIfInBounds (off + p.2) p.1) A).toList ((l'.zipIdx s).foldl (fun cs p => cs.setIfInBounds (off + p.2) p.1) A').toList
  | [], l', s, off, A, A', h, hA => by rw [h.nil_left]; exact hA
  | v :: l, l', s, off, A, A', h, hA => by
    obtain ⟨v', t', rfl, hv, ht⟩ := h.cons_left
    simp only [List.zipIdx_cons, List.foldl_cons]
    refine foldl_set_rel l t' (s + 1) off _ _ ht ⟨by simpa using hA.1, fun i x x' h1 h2 => ?_⟩
    simp only [Array.toList_setIfInBounds, List.getElem?_set] at h1 h2
    have hlen := hA.1
    by_cases hi : off + s = i
    · rw [if_pos hi] at h1 h2
      split at h1
      · rename_i hlt
        rw [if_pos (by omega)] at h2
        injection h1 with h1; injection h2 with h2; subst h1 h2; exact hv
      · cases h1
    · rw [if_neg hi] at h1 h2; exact hA.2 i x x' h1 h2

theorem foldl_set_size : ∀ (l : List Value) (s off : Nat) (A : Array Value), ((l.zipIdx s).foldl (fun cs p => cs.setIfInBounds (off + p.2) p.1) A).size = A.size
  | [], _, _, _ => rfl
  | v :: l, s, off, A => by simp only [List.zipIdx_cons, List.foldl_cons]; rw [foldl_set_size l (s + 1) off]; simp

theorem fill_rel {place : Nat → Option (Nat × Nat)} : ∀ (ps ps' : List (Nat × Value)) (A A' : Array Value) (r : Array Value), ps.length = ps'.length →
    (∀ (i : Nat) x x', ps[i]? = some x → ps'[i]? = some x' → x.1 = x'.1 ∧ VRel μ x.2 x'.2) → LRel μ A.toList A'.toList → Instr.fill place A ps = some r →
    ∃ r', Instr.fill place A' ps' = some r' ∧ LRel μ r.toList r'.toList
  | [], ps', A, A', r, hl, _, hA, h => by
    have : ps' = [] := List.eq_nil_of_length_eq_zero hl.symm
    subst this
    simp only [Instr.fill, Option.some.injEq] at h; subst h
    exact ⟨A', rfl, hA⟩
  | (i, v) :: ps, ps', A, A', r, hl, hp, hA, h => by
    cases ps' with
    | nil => simp at hl
    | cons x' ps' =>
      obtain ⟨i', v'⟩ := x'
      obtain ⟨hi, hv⟩ := hp 0 (i, v) (i', v') rfl rfl
      simp only at hi hv; subst hi
      simp only [Instr.fill] at h ⊢
      cases hpl : place i with
      | none => rw [hpl] at h; cases h
      | some os =>
        obtain ⟨off, size⟩ := os
        rw [hpl] at h
        simp only at h ⊢
        have hc := hv.cells
        have hcs : v'.cells.size = v.cells.size := by have := hc.1; simpa using this.symm
        have hAs : A'.size = A.size := by have := hA.1; simpa using this.symm
        rw [hcs, hAs]
        split at h
        · cases h
        · rename_i hcond
          rw [if_neg hcond]
          refine fill_rel ps ps' _ _ r (by simpa using hl) (fun j x x' h1 h2 => hp (j + 1) x x' (by simpa using h1) (by simpa using h2)) ?_ h
          have := foldl_set_rel v.cells.toList v'.cells.toList 0 off A A' hc hA
          have e : ∀ (u : Value) (B : Array Value), Array.foldl (fun cs x => cs.setIfInBounds (off + x.snd) x.fst) B u.cells.zipIdx = List.foldl (fun cs p => cs.setIfInBounds (off + p.snd) p.fst) B u.cells.toList.zipIdx := fun u B => by
            rw [← Array.foldl_toList, Array.toList_zipIdx]
          exact (e v A ▸ e v' A' ▸ this : LRel μ (Array.foldl (fun cs x => cs.setIfInBounds (off + x.snd) x.fst) A v.cells.zipIdx).toList (Array.foldl (fun cs x => cs.setIfInBounds (off + x.snd) x.fst) A' v'.cells.zipIdx).toList)
end
end Go.R
