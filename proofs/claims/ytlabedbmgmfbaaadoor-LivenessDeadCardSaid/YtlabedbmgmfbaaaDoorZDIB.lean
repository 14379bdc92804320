/-
 Plain laws: what the functions compute answers as the statement says. No condition beyond those that each statement names.
-/
import Derived.Test.YtlabedbmgmfbaaaDoorZDIA
noncomputable section
namespace Go.Proofs.YtlabedbmgmfbaaaDoor.ib
open Go.R m1 m2 m7 iw ia
set_option linter.unusedVariables false
theorem bv_in (x : BitVec 64) : in64 x.toInt := ⟨by have := BitVec.le_toInt (x := x); simpa using this, by have := BitVec.toInt_lt (x := x); simpa using this⟩
theorem gA (b : Bool) : in64 (bR b) := by cases b <;> decide
theorem quo_in (a b : Int) : in64 (quoV a b) := by
 unfold quoV
 cases h : b == 0 with
 | true => exact (⟨by decide, by decide⟩ : in64 0)
 | false => cases z : b == -1 <;> exact aM _
theorem dM {c : Bool} {x y : Int} (hx : in64 x) (hy : in64 y) : in64 (bif c then x else y) := by cases c <;> assumption
theorem bn {op a b : Int} (ha : in64 a) : in64 (binV op a b) := by
 unfold binV shcV
 have z : in64 0 := ⟨by decide, by decide⟩
 refine dM (aM _) (dM (aM _) (dM (aM _) (dM (quo_in _ _) (dM (dM z (aM _)) (dM ?_ (dM ?_ (dM ?_ ?_)))))))
 ·
  rw [and_bv]; exact bv_in _
 ·
  rw [or_bv]; exact bv_in _
 ·
  rw [xor_bv]; exact bv_in _
 ·
  exact dM (aM _) (dM (aM _) (dM (sar_rng ha _).1 (dM (gA _) (dM (gA _) (dM (gA _) (dM (gA _) (dM (gA _) z)))))))
theorem sv_in {F : Fz} {get : Nat → Option AObj} {v : Value} {l : List Int} (h : Sv F get v l) (n : Int) : in64 (bB l n) := by
 obtain ⟨cf, hv⟩ := Sv.view h
 exact fI (hv n.toNat)
theorem set_len {l : List Int} {n x : Int} : (gD l n x).length ≤ max l.length (n.toNat + 1) := by unfold gD; simp; omega
def cellA (h : Hd) (i : Int) : Option Addr := if 0 ≤ i ∧ i < (h.n : Int) then some ⟨sB (.slice h.a h.n h.k), sO (.slice h.a h.n h.k) + i.toNat * Rp.sz Int, none⟩ else none
structure CalOK (P : List VFnT) (c : CalT) : Prop where
 mem : c.code ∈ P
 blk : 0 ≤ c.blk ∧ c.blk < (c.code.blocks.length : Int)
 at_ : 0 ≤ c.at_ ∧ c.at_ ≤ ((c.code.blocks.getD c.blk.toNat default).ins.length : Int)
 regs : c.regs.length ≤ 3000
 args : (c.args.length : Int) = c.code.params
 to_ : 0 ≤ c.to_ ∧ c.to_ < 3000
structure RunOK (P : List VFnT) (nc : Nat) (s : RunS) (N : Nat) : Prop where
 top : CalOK P s.top
 low : ∀ c ∈ s.low, CalOK P c
 cells : s.cells.length = nc
 rows : ∀ r ∈ s.cells, r.length ≤ 16
 fuel : 0 ≤ s.fuel ∧ s.fuel ≤ 1000
 cnt : s.low.length + s.out.length ≤ N
 kc : in64 s.kind ∧ in64 s.code
structure PrF (P : List VFnT) (nl : Nat) : Prop where
 len : P.length ≤ 8
 lim : ∀ c ∈ P, 0 ≤ c.params ∧ c.params ≤ 6 ∧ 0 ≤ c.regs ∧ c.regs ≤ 3000 ∧ 1 ≤ c.blocks.length ∧ c.blocks.length ≤ 1000
 fin : ∀ c ∈ P, ∀ k, k < c.blocks.length → fQ (c.blocks.length : Int) c.regs (c.blocks.getD k default) = true
 ins : ∀ c ∈ P, ∀ k i, k < c.blocks.length → i < (c.blocks.getD k default).ins.length → eg c.params c.regs ((c.blocks.getD k default).ins.getD i default) = true ∧ vpI P (nl : Int) ((c.blocks.getD k default).ins.getD i default) = true
theorem jD {P : List VFnT} {lens : List Int} (h : vpV P lens = true) : PrF P lens.length := by
 unfold vpV at h
 rw [Bool.and_eq_true, Bool.and_eq_true] at h
 obtain ⟨⟨z, _⟩, A⟩ := h
 have z := of_decide_eq_true z
 have hf : ∀ c ∈ P, eL c = true ∧ c.blocks.all (vpB P (lens.length : Int)) = true := fun c hc => by
  have := List.all_eq_true.1 A c hc
  unfold vpF at this
  rwa [Bool.and_eq_true] at this
 have hv : ∀ c ∈ P, (0 ≤ c.params ∧ c.params ≤ 6 ∧ 0 ≤ c.regs ∧ c.regs ≤ 3000 ∧ 1 ≤ c.blocks.length ∧ c.blocks.length ≤ 1000) ∧ c.blocks.all (jZ c.params c.regs c.blocks.length) = true := fun c hc => by
  have := (hf c hc).1
  unfold eL at this
  rw [Bool.and_eq_true] at this
  exact ⟨of_decide_eq_true this.1, this.2⟩
 refine ⟨z.2.1, fun c hc => (hv c hc).1, fun c hc k hk => ?_, fun c hc k i hk hi => ⟨?_, ?_⟩⟩
 ·
  have := eK (hv c hc).2 hk
  unfold jZ at this
  rw [Bool.and_eq_true] at this
  exact this.2
 ·
  have := eK (hv c hc).2 hk
  unfold jZ at this
  rw [Bool.and_eq_true] at this
  exact eK this.1 hi
 ·
  have := eK (hf c hc).2 hk
  unfold vpB at this
  exact eK this hi
theorem op_lim {b : Bool} {n r : Int} (h : dq b n r = true) (hr : r ≤ 3000) : 0 ≤ n ∧ n < 3000 := by
 rcases gH.1 h with h | h <;> omega
structure InF (P : List VFnT) (nl : Nat) (c : VFnT) (v : VInT) : Prop where
 al : v.i.op = 3 ∨ v.i.op = 6 ∨ (9 ≤ v.i.op ∧ v.i.op ≤ 13) ∨ (15 ≤ v.i.op ∧ v.i.op ≤ 35) ∨ v.i.op = 38
 a : 0 ≤ v.i.a ∧ v.i.a < 3000
 b : 0 ≤ v.i.b ∧ v.i.b < 3000
 cc : 0 ≤ v.i.c ∧ v.i.c < 3000
 args : v.args.length ≤ 6
 arg : ∀ k, k < v.args.length → 0 ≤ v.args.getD k 0 ∧ v.args.getD k 0 < 3000
 call : v.i.op = 6 → 0 ≤ v.i.n ∧ v.i.n < (P.length : Int) ∧ (P.getD v.i.n.toNat default).params = (v.args.length : Int)
 mem : v.i.op = 34 ∨ v.i.op = 35 → 0 ≤ v.i.n ∧ v.i.n < (nl : Int)
 par : v.i.op = 38 → 0 ≤ v.i.n ∧ v.i.n < c.params
theorem inF_of {P : List VFnT} {nl : Nat} {c : VFnT} {v : VInT} (hr : c.regs ≤ 3000) (h : eg c.params c.regs v = true) (I : vpI P (nl : Int) v = true) : InF P nl c v := by
 unfold eg at h
 simp only [Bool.and_eq_true] at h
 obtain ⟨⟨⟨⟨⟨⟨⟨A, O⟩, z⟩, J⟩, ha⟩, hb⟩, hc⟩, hi⟩ := h
 have z := of_decide_eq_true z
 have hal := of_decide_eq_true (show decide _ = true from A)
 have hp := kU.1 I
 have himm : (v.i.op = 6 → 0 ≤ v.i.n) ∧ (v.i.op = 34 ∨ v.i.op = 35 → 0 ≤ v.i.n) ∧ (v.i.op = 38 → 0 ≤ v.i.n ∧ v.i.n < c.params) := by
  unfold gK at hi
  refine ⟨fun e => ?_, fun e => ?_, fun e => ?_⟩
  ·
   rw [if_neg (by omega), if_neg (by omega), if_pos e] at hi; exact (of_decide_eq_true hi).1
  ·
   rw [if_neg (by omega), if_neg (by omega), if_neg (by omega), if_pos e] at hi; exact (of_decide_eq_true hi).1
  ·
   rw [if_neg (by omega), if_neg (by omega), if_neg (by omega), if_neg (by omega), if_pos e] at hi; exact of_decide_eq_true hi
 refine ⟨hal, op_lim ha hr, op_lim hb hr, op_lim hc hr, z, fun k hk => ?_, fun e => ⟨himm.1 e, (hp.1 e).1, (hp.1 e).2⟩, fun e => ⟨himm.2.1 e, hp.2 e⟩, himm.2.2⟩
 have := bp.1 (eK J hk)
 have e : v.args.getD k 0 = v.args.getD k default := rfl
 rw [e]; omega
theorem jp {nb regs : Int} {b : BlkT} (h : fQ nb regs b = true) (hr : regs ≤ 3000) : 0 ≤ b.reg ∧ b.reg < 3000 ∧ (b.fin = 1 → 0 ≤ b.tgt ∧ b.tgt < nb) ∧ (b.fin = 2 → 0 ≤ b.tgt ∧ b.tgt < nb ∧ 0 ≤ b.els ∧ b.els < nb) ∧ (1 ≤ b.fin ∧ b.fin ≤ 4) ∧ (b.fin = 4 → 1 ≤ b.tgt ∧ b.tgt < 33554432) := by
 have := bE.1 h
 omega
section
variable {P : List VFnT} {nc : Nat} {s : RunS} {N : Nat}
theorem bf {l : List (List Int)} (h : ∀ r ∈ l, r.length ≤ 16) (k : Nat) : (l.getD k default).length ≤ 16 := by
 rw [List.getD_eq_getElem?_getD]
 cases e : l[k]? with
 | none => exact Nat.zero_le _
 | some r => exact h r (List.mem_of_getElem? e)
theorem CalOK.inF (hp : PrF P nc) {c : CalT} (h : CalOK P c) (ha : c.at_ ≠ ((c.code.blocks.getD c.blk.toNat default).ins.length : Int)) : InF P nc c.code (gg c) := by
 have hb := h.blk
 have hat := h.at_
 obtain ⟨z, A⟩ := hp.ins c.code h.mem c.blk.toNat c.at_.toNat (by omega) (by omega)
 exact inF_of (hp.lim _ h.mem).2.2.2.1 z A
theorem CalOK.fin (hp : PrF P nc) {c : CalT} (h : CalOK P c) : fQ (c.code.blocks.length : Int) c.code.regs (da c) = true := by
 have hb := h.blk
 exact hp.fin c.code h.mem c.blk.toNat (by omega)
theorem ok_set (h : CalOK P s.top) {n x : Int} (hn : 0 ≤ n ∧ n < 3000) : CalOK P (setT s n x).top := ⟨h.mem, h.blk, h.at_, by have := h.regs; have := set_len (l := s.top.regs) (n := n) (x := x); show (gD _ _ _).length ≤ 3000; omega, h.args, h.to_⟩
theorem RunOK.set (h : RunOK P nc s N) {n x : Int} (hn : 0 ≤ n ∧ n < 3000) : RunOK P nc (setT s n x) (N + 1) := ⟨ok_set h.top hn, h.low, h.cells, h.rows, h.fuel, Nat.le_succ_of_le h.cnt, h.kc⟩
theorem RunOK.stop (h : RunOK P nc s N) {k c x : Int} (hk : in64 k ∧ in64 c) : RunOK P nc (stopV s k c x) (N + 1) := ⟨h.top, h.low, h.cells, h.rows, h.fuel, Nat.le_succ_of_le h.cnt, hk⟩
theorem RunOK.up (h : RunOK P nc s N) : RunOK P nc s (N + 1) := ⟨h.top, h.low, h.cells, h.rows, h.fuel, Nat.le_succ_of_le h.cnt, h.kc⟩
theorem RunOK.go (h : RunOK P nc s N) {b : Int} (hb : 0 ≤ b ∧ b < (s.top.code.blocks.length : Int)) : RunOK P nc (goT s b) (N + 1) := ⟨⟨h.top.mem, hb, ⟨Int.le_refl 0, Int.natCast_nonneg _⟩, h.top.regs, h.top.args, h.top.to_⟩, h.low, h.cells, h.rows, h.fuel, Nat.le_succ_of_le h.cnt, h.kc⟩
theorem last_mem {l : List CalT} (h : l ≠ []) : l.getLastD default ∈ l := by
 cases l with
 | nil => exact absurd rfl h
 | cons a l => rw [List.getLastD_cons]; exact (by cases l with | nil => exact List.mem_cons_self .. | cons b l => rw [List.getLastD_cons]; exact List.mem_cons_of_mem _ (List.getLastD_mem_cons ..))
theorem RunOK.back (h : RunOK P nc s N) {x : Int} : RunOK P nc (i0 s x) (N + 1) := by
 unfold i0
 split
 ·
  exact h.stop ⟨⟨by decide, by decide⟩, by decide, by decide⟩
 ·
  rename_i hne
  have hl := h.low _ (last_mem hne)
  have ht := h.top.to_
  refine ⟨⟨hl.mem, hl.blk, hl.at_, ?_, hl.args, hl.to_⟩, fun c hc => h.low c (List.dropLast_subset _ hc), h.cells, h.rows, h.fuel, ?_, h.kc⟩
  ·
   have := hl.regs; have := set_len (l := (s.low.getLastD default).regs) (n := s.top.to_) (x := x); show (gD _ _ _).length ≤ 3000; omega
  ·
   have := h.cnt; show s.low.dropLast.length + s.out.length ≤ _; rw [List.length_dropLast]; omega
theorem RunOK.term (hp : PrF P nc) (h : RunOK P nc s N) : RunOK P nc (kX s (da s.top)) (N + 1) := by
 have hf := jp (h.top.fin hp) (hp.lim _ h.top.mem).2.2.2.1
 unfold kX
 split
 ·
  exact h.go (hf.2.2.1 (by assumption))
 ·
  split
  ·
   rename_i z
   have := hf.2.2.2.1 z
   exact h.go (by split <;> omega)
  ·
   split
   ·
    exact h.back
   ·
    have := hf.2.2.2.2
    exact h.stop ⟨⟨by decide, by decide⟩, by omega, by omega⟩
theorem RunOK.cmp (h : RunOK P nc s N) {i : InsT} (ha : 0 ≤ i.a ∧ i.a < 3000) : RunOK P nc (fb s i) (N + 1) := by
 unfold fb
 (repeat' split) <;> first | exact h.set ha | exact h.up | exact h.stop ⟨⟨by decide, by decide⟩, by decide, by decide⟩
theorem RunOK.acc (h : RunOK P nc s N) {i : InsT} (ha : 0 ≤ i.a ∧ i.a < 3000) : RunOK P nc (accV s i) (N + 1) := by
 unfold accV
 (repeat' split) <;> first | exact h.set ha | exact h.stop ⟨⟨by decide, by decide⟩, by decide, by decide⟩ | skip
 refine ⟨h.top, h.low, by show (List.set _ _ _).length = nc; rw [List.length_set]; exact h.cells, fun r hr => ?_, h.fuel, Nat.le_succ_of_le h.cnt, h.kc⟩
 rcases List.mem_or_eq_of_mem_set hr with hr | rfl
 ·
  exact h.rows r hr
 ·
  rw [List.length_set]
  exact bf h.rows _
theorem RunOK.next (h : RunOK P nc s N) (ha : s.top.at_ ≠ ((s.top.code.blocks.getD s.top.blk.toNat default).ins.length : Int)) : RunOK P nc (lf s) N := ⟨⟨h.top.mem, h.top.blk, by have := h.top.at_; exact ⟨by show 0 ≤ s.top.at_ + 1; omega, by show s.top.at_ + 1 ≤ ((s.top.code.blocks.getD s.top.blk.toNat default).ins.length : Int); omega⟩, h.top.regs, h.top.args, h.top.to_⟩, h.low, h.cells, h.rows, h.fuel, h.cnt, h.kc⟩
theorem RunOK.step (hp : PrF P nc) (h : RunOK P nc s N) : RunOK P nc (dW P s) (N + 1) := by
 unfold dW
 split
 ·
  exact h.term hp
 ·
  rename_i hat
  have hi := h.top.inF hp hat
  have hn := h.next hat
  unfold j5
  split
  ·
   split
   ·
    exact hn.stop ⟨⟨by decide, by decide⟩, by decide, by decide⟩
   ·
    rename_i hf
    exact ⟨hn.top, hn.low, hn.cells, hn.rows, by have := hn.fuel; exact ⟨by show 0 ≤ (lf s).fuel - 1; omega, by show (lf s).fuel - 1 ≤ 1000; omega⟩, Nat.le_succ_of_le hn.cnt, hn.kc⟩
  ·
   split
   ·
    rename_i z
    have hc := hi.call z
    have hm : P.getD (gg s.top).i.n.toNat default ∈ P := by rw [List.getD_eq_getElem?_getD, List.getElem?_eq_getElem (by omega)]; exact List.getElem_mem _
    have hl := hp.lim _ hm
    refine ⟨⟨hm, ⟨Int.le_refl 0, by show (0 : Int) < ((P.getD (gg s.top).i.n.toNat default).blocks.length : Int); omega⟩, ⟨Int.le_refl 0, Int.natCast_nonneg _⟩, by simp, by show ((List.map _ _).length : Int) = _; rw [List.length_map]; exact hc.2.2.symm, hi.a⟩, fun c hc => ?_, hn.cells, hn.rows, hn.fuel, ?_, hn.kc⟩
    ·
     rcases List.mem_append.1 hc with hc | hc
     ·
      exact hn.low c hc
     ·
      rw [List.mem_singleton.1 hc]; exact hn.top
    ·
     have := hn.cnt
     show ((lf s).low ++ [(lf s).top]).length + (lf s).out.length ≤ N + 1
     rw [List.length_append, List.length_singleton]; omega
   ·
    split
    ·
     refine ⟨hn.top, hn.low, hn.cells, hn.rows, hn.fuel, ?_, hn.kc⟩
     have := hn.cnt
     show (lf s).low.length + ((lf s).out ++ [_]).length ≤ N + 1
     rw [List.length_append, List.length_singleton]; omega
    ·
     split
     ·
      exact hn.acc hi.a
     ·
      exact hn.cmp hi.a
end
end Go.Proofs.YtlabedbmgmfbaaaDoor.ib
