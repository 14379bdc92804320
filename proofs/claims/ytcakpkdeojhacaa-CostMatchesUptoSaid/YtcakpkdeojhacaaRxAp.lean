/-
  Operations, one by one: what each comes to where its operands are known.
  No condition beyond those that each statement names.
-/
import Derived.Test.YtcakpkdeojhacaaRxW
noncomputable section
namespace Go.R

section
variable {P : Program} {ρ : Operand → Value} {d : Option Tmp} {ty : TypeId} {pos : String} {af : Array Edge} {gd : Option (Nat × Bool)} {H : Heap}

theorem ap_move {x : Operand} {v : Value} (h : ρ x = v) : AP P ρ ⟨d, .move x, ty, pos, af, gd⟩ H (.val v, H) := by subst h; exact ⟨rfl⟩
theorem ap_assign {x : Operand} {v : Value} (h : ρ x = v) : AP P ρ ⟨d, .assign x, ty, pos, af, gd⟩ H (.val v, H) := by subst h; exact ⟨rfl⟩
theorem ap_int {op : BinOp} {t yt : TypeId} {x y : Operand} {k k' : IntKind} {a b : Int} {v : Value} (hx : ρ x = .int k a) (hy : ρ y = .int k' b)
    (hv : (bif isShift op then shBin op k a b else bif kindEq k k' then intBin op k a b else none) = some v) : AP P ρ ⟨d, .binOp op t x y yt, ty, pos, af, gd⟩ H (.val v, H) := by
  refine ⟨?_⟩
  show aBin P ρ _ op t (ρ x) y H = _
  rw [hx]
  show binInt op k a (ρ y) H = _
  rw [hy]
  show ovl _ H = _
  rw [hv]; rfl
theorem ap_str {op : BinOp} {t yt : TypeId} {x y : Operand} {a b : ByteArray} {v : Value} (hx : ρ x = .string a) (hy : ρ y = .string b) (hv : strOp op a b = some v) :
    AP P ρ ⟨d, .binOp op t x y yt, ty, pos, af, gd⟩ H (.val v, H) := by
  refine ⟨?_⟩
  show aBin P ρ _ op t (ρ x) y H = _
  rw [hx]
  show binStr op a (ρ y) H = _
  rw [hy]
  show ovl _ H = _
  rw [hv]; rfl
theorem ap_not {t : TypeId} {x : Operand} {b : Bool} (hx : ρ x = .bool b) : AP P ρ ⟨d, .unOp .not t x, ty, pos, af, gd⟩ H (.val (.bool (!b)), H) := by
  refine ⟨?_⟩
  show aUn P ρ _ .not (ρ x) H = _
  rw [hx]; rfl
theorem ap_conv {s t : TypeId} {x : Operand} {k k' : IntKind} {n : Int} (hx : ρ x = .int k n) {u : TypeDesc} (hs : P.underlying s = some u) (ht : P.underlying t = some (.int k')) :
    AP P ρ ⟨d, .convert s t x, ty, pos, af, gd⟩ H (.val (.int k' (k'.wrap n)), H) := by
  refine ⟨?_⟩
  show aConvert P ρ _ s t (ρ x) H = _
  rw [hx]
  show ovl (convInt P s t n) H = _
  unfold convInt
  rw [hs, ht]; rfl
theorem ap_neg {t : TypeId} {x : Operand} {k : IntKind} {n : Int} (hx : ρ x = .int k n) : AP P ρ ⟨d, .unOp .neg t x, ty, pos, af, gd⟩ H (.val (.int k (k.wrap (0 - n))), H) := by
  refine ⟨?_⟩
  show aUn P ρ _ .neg (ρ x) H = _
  rw [hx]
  show plainOp P ρ _ H = _
  unfold plainOp
  have h1 : ((Op.unOp .neg t x).operands.toList.all fun x => noA1 (ρ x)) = true := by simp [Op.operands, hx, noA1, noA0]
  simp only [h1, cond_true]
  show (match pureRun P (execOp ρ ⟨d, .unOp .neg t x, ty, pos, af, gd⟩) with | some (.value v) => bif noA2 v then some (AN.val v, H) else none | _ => none) = _
  have h2 : pureRun P (execOp ρ ⟨d, .unOp .neg t x, ty, pos, af, gd⟩) = some (.value (.int k (k.wrap (0 - n)))) := by
    unfold execOp
    simp only [hx]
    rfl
  rw [h2]; rfl
theorem ap_cpl {t : TypeId} {x : Operand} {k : IntKind} {n : Int} (hx : ρ x = .int k n) : AP P ρ ⟨d, .unOp .xor t x, ty, pos, af, gd⟩ H (.val (.int k (bits .xor k (if k.signed then -1 else k.max) n)), H) := by
  refine ⟨?_⟩
  show aUn P ρ _ .xor (ρ x) H = _
  rw [hx]
  show plainOp P ρ _ H = _
  unfold plainOp
  have h1 : ((Op.unOp .xor t x).operands.toList.all fun x => noA1 (ρ x)) = true := by simp [Op.operands, hx, noA1, noA0]
  simp only [h1, cond_true]
  have h2 : pureRun P (execOp ρ ⟨d, .unOp .xor t x, ty, pos, af, gd⟩) = some (.value (.int k (bits .xor k (if k.signed then -1 else k.max) n))) := by
    unfold execOp
    simp only [hx]
    rfl
  rw [h2]; rfl
theorem ap_quo {t yt : TypeId} {x y : Operand} {k k' : IntKind} {a b : Int} (hx : ρ x = .int k a) (hy : ρ y = .int k' b) (hk : kindEq k k' = true) (hb : (b == 0) = false) :
    AP P ρ ⟨d, .binOp .quo t x y yt, ty, pos, af, gd⟩ H (.val (.int k (k.wrap (a.tdiv b))), H) :=
  ap_int hx hy (by show (bif kindEq k k' then (bif b == 0 then none else some (.int k (k.wrap (a.tdiv b)))) else none : Option Value) = _; rw [hk, hb]; rfl)
theorem ap_rem {t yt : TypeId} {x y : Operand} {k k' : IntKind} {a b : Int} (hx : ρ x = .int k a) (hy : ρ y = .int k' b) (hk : kindEq k k' = true) (hb : (b == 0) = false) :
    AP P ρ ⟨d, .binOp .rem t x y yt, ty, pos, af, gd⟩ H (.val (.int k (a.tmod b)), H) :=
  ap_int hx hy (by show (bif kindEq k k' then (bif b == 0 then none else some (.int k (a.tmod b))) else none : Option Value) = _; rw [hk, hb]; rfl)
theorem ap_shl {t yt : TypeId} {x y : Operand} {k k' : IntKind} {a b : Int} (hx : ρ x = .int k a) (hy : ρ y = .int k' b) (hb : 0 ≤ b) :
    AP P ρ ⟨d, .binOp .shl t x y yt, ty, pos, af, gd⟩ H (.val (.int k (k.wrap (a * 2 ^ (Nat.min b.toNat k.bits)))), H) := by
  refine ⟨?_⟩
  obtain ⟨n, rfl⟩ := Int.eq_ofNat_of_zero_le hb
  exact (ap_int hx hy rfl).eq
theorem ap_shr {t yt : TypeId} {x y : Operand} {k k' : IntKind} {a b : Int} (hx : ρ x = .int k a) (hy : ρ y = .int k' b) (hb : 0 ≤ b) :
    AP P ρ ⟨d, .binOp .shr t x y yt, ty, pos, af, gd⟩ H (.val (.int k (a.fdiv (2 ^ (Nat.min b.toNat k.bits)))), H) := by
  refine ⟨?_⟩
  obtain ⟨n, rfl⟩ := Int.eq_ofNat_of_zero_le hb
  exact (ap_int hx hy rfl).eq
theorem ap_buildSlice {t : TypeId} {n sz : Nat} {z : List Value} {parts : Array (Nat × Operand)} {cells : Array Value} (hs : sliceInfo P t = some (sz, z)) (hn : Nat.ble (n * sz) 16777216 = true)
    (hf : Instr.fill (fun i => some (i * sz, sz)) ⟨copies n z⟩ (mapL (fun p => (p.1, ρ p.2)) parts.toList) = some cells) :
    AP P ρ ⟨d, .buildSlice t n parts, ty, pos, af, gd⟩ H (.val (.slice (some ⟨H.next, 0, none⟩) n n), H.push (.cells cells.toList none false)) := by
  refine ⟨?_⟩
  show opBuildSlice P t n (mapL (fun p => (p.1, ρ p.2)) parts.toList) H = _
  unfold opBuildSlice
  rw [hs]
  simp only [hn, cond_true, hf]
  rfl
theorem ap_indexAddr {t e : TypeId} {x i : Operand} {b o n k sz : Nat} {ki : IntKind} {j : Int} (hx : ρ x = .slice (some ⟨b, o, none⟩) n k) (hi : ρ i = .int ki j) (ht : P.underlying t = some (.slice e)) (hs : szOf P e = some sz)
    (h0 : 0 ≤ j) (hj : j < n) (hn : n ≤ k) : AP P ρ ⟨d, .indexAddr t x i, ty, pos, af, gd⟩ H (.val (.pointer (some ⟨b, o + j.toNat * sz, none⟩)), H) := by
  refine ⟨?_⟩
  obtain ⟨m, rfl⟩ := Int.eq_ofNat_of_zero_le h0
  show ovl (aIndexAddr P t (ρ x) (ρ i)) H = _
  rw [hx, hi]
  unfold aIndexAddr
  rw [ht]
  show ovl (match szOf P e with | some sz => bif Nat.ble (m + 1) n && Nat.ble n k then some (.pointer (some ⟨b, o + m * sz, none⟩)) else none | none => none) H = _
  rw [hs]
  have h1 : Nat.ble (m + 1) n = true := Nat.ble_eq_true_of_le (by omega)
  have h2 : Nat.ble n k = true := Nat.ble_eq_true_of_le hn
  simp only [h1, h2, Bool.and_self, cond_true]
  rfl
theorem ap_load1 {t : TypeId} {x : Operand} {b o : Nat} {cs : List Value} {opn : Option Nat} {ro : Bool} {v : Value} (hx : ρ x = .pointer (some ⟨b, o, none⟩)) (ha : aggOf P t = some false) (hg : H.get b = some (.cells cs opn ro)) (hv : cs[o]? = some v) :
    AP P ρ ⟨d, .load t x, ty, pos, af, gd⟩ H (.val v, H) := by
  refine ⟨?_⟩
  show opLoad P t (ρ x) H = _
  rw [hx]
  show ovl (H.loadV P t ⟨b, o, none⟩) H = _
  unfold Heap.loadV
  rw [ha]
  simp only
  unfold Heap.cellAt
  simp only [hg, nth_eq, hv]
  rfl
theorem ap_loadN {t : TypeId} {x : Operand} {b o n : Nat} {cs l : List Value} {opn : Option Nat} {ro : Bool} (hx : ρ x = .pointer (some ⟨b, o, none⟩)) (ha : aggOf P t = some true) (hs : szOf P t = some n) (hg : H.get b = some (.cells cs opn ro)) (hl : (cs.drop o).take n = l) (hn : l.length = n) :
    AP P ρ ⟨d, .load t x, ty, pos, af, gd⟩ H (.val (.agg ⟨l⟩), H) := by
  refine ⟨?_⟩
  show opLoad P t (ρ x) H = _
  rw [hx]
  show ovl (H.loadV P t ⟨b, o, none⟩) H = _
  unfold Heap.loadV
  rw [ha]
  simp only [hs]
  unfold Heap.loadN
  simp only [hg, takeL_eq, dropL_eq, lenL_eq, hl, hn, Nat.beq_refl, cond_true]
  rfl

/-- Nothing elder has turned. -/
structure Keeps (H H' : Heap) : Prop where
  next : H.next ≤ H'.next
  get : ∀ b, b < H.next → H'.get b = H.get b
  log : ∃ d, H'.log = d ++ H.log ∧ ∀ b, b ∈ d → H.next ≤ b
theorem Keeps.refl (H : Heap) : Keeps H H := ⟨Nat.le_refl _, fun _ _ => rfl, [], rfl, fun _ h => by simp at h⟩
theorem Keeps.trans {A B C : Heap} (h : Keeps A B) (k : Keeps B C) : Keeps A C := by
  obtain ⟨d, hd1, hd2⟩ := h.log
  obtain ⟨e, he1, he2⟩ := k.log
  refine ⟨Nat.le_trans h.next k.next, fun b hb => (k.get b (Nat.lt_of_lt_of_le hb h.next)).trans (h.get b hb), e ++ d, by rw [he1, hd1, List.append_assoc], fun b hb => ?_⟩
  rcases List.mem_append.1 hb with hb | hb
  · exact Nat.le_trans h.next (he2 b hb)
  · exact hd2 b hb
theorem Keeps.push (H : Heap) (o : AObj) : Keeps H (H.push o) := ⟨by simp, fun b hb => Heap.get_push_ne _ _ (by omega), [], rfl, fun _ h => by simp at h⟩
theorem Keeps.put {H H' : Heap} (h : Keeps H H') {b : Nat} (hb : H.next ≤ b) (o : AObj) : Keeps H (H'.put b o) := by
  obtain ⟨d, hd1, hd2⟩ := h.log
  refine ⟨h.next, fun c hc => ?_, b :: d, by rw [Heap.log_put, hd1]; rfl, fun c hc => ?_⟩
  · rw [Heap.get_put_ne _ _ (by omega)]; exact h.get c hc
  · rcases List.mem_cons.1 hc with rfl | hc
    · exact hb
    · exact hd2 c hc
theorem appL_nil (l : List Value) : appL l [] = l := by rw [appL_eq]; simp
theorem ap_call {args : Array Operand} {ats : Array TypeId} {i : FuncId} {fn : Func} {f : Fn} {l : List Value} (hf : P.funcs[i]? = some fn) (hb : (fn.body.isSome && !(fn.name == "runtime.NumGoroutine")) = true) (hl : mapL (aevF f) args.toList = l) :
    AP P (aevF f) ⟨d, .call ⟨.value (.func i), args, ats⟩, ty, pos, af, gd⟩ H (.enter i l, H) := by
  refine ⟨?_⟩
  show opCallee (aCallee P (.func (.func i) #[] #[]) (mapL (aevF f) args.toList)) H = _
  unfold aCallee
  simp only [hf, hb, cond_true, hl]
  show opCallee (some (.enter i (appL [] (appL l [])))) H = _
  rw [appL_nil]
  rfl
end
end Go.R
end
