/-
 The law that an assignment to a register that is not live changes no outcome, by a symbolic run. No condition but that the table lies as laid.
-/
import Derived.Test.YtlabedbmgmfbaaaDoorZDJE
import Derived.Test.YtlabedbmgmfbaaaDoorZDMF
import Derived.Test.YtlabedbmgmfbaaaDoorZDJG
noncomputable section
namespace Go.Proofs.YtlabedbmgmfbaaaDoor.ld
open Go.R
set_option maxRecDepth 10000
set_option linter.unusedVariables false
open m1 m2 m3 m4 m5 m6 m7 m8 ma ml mb mc md mf iw ia ib ic is_ id_ ir it ja jw jc jd je jf jg
def bdP (l : List VFnT) : Prop := ∀ k j, ((l.getD k default).blocks.getD j default).ins.length ≤ 1000
theorem bdP_of {l : List VFnT} (h : ∀ x ∈ l, ∀ j, (x.blocks.getD j default).ins.length ≤ 1000) : bdP l := fun k j => by
 rw [List.getD_eq_getElem?_getD (l := l)]
 rcases hk : l[k]? with _ | x
 ·
  exact Nat.zero_le _
 ·
  exact h x (List.mem_of_getElem? hk) j
theorem bdP_mem {l : List VFnT} (h : bdP l) : ∀ x ∈ l, ∀ j, (x.blocks.getD j default).ins.length ≤ 1000 := fun x hx j => by
 obtain ⟨k, hk, rfl⟩ := List.mem_iff_getElem.1 hx
 have := h k j
 rwa [List.getD_eq_getElem?_getD (l := l), List.getElem?_eq_getElem hk] at this
theorem bd_p {p : List VFnT} (h : p.length = 2 ∧ vfG (p.getD 0 default) 2 ∧ vfG (p.getD 1 default) 1) : bdP p := fun k j => by
 rcases Nat.lt_or_ge k 2 with hk | hk
 ·
  have : k = 0 ∨ k = 1 := by omega
  rcases this with rfl | rfl
  ·
   exact Nat.le_trans (h.2.1.ins j) (by omega)
  ·
   exact Nat.le_trans (h.2.2.ins j) (by omega)
 ·
  have z := h.1
  rw [dj (l := p) (by omega)]; exact Nat.zero_le _
theorem g_at {p : List VFnT} (h : p.length = 2 ∧ vfG (p.getD 0 default) 2 ∧ vfG (p.getD 1 default) 1) {k : Nat} (hk : k < 2) : ∃ n, 0 ≤ n ∧ n ≤ 2 ∧ vfG (p.getD k default) n := by
 have : k = 0 ∨ k = 1 := by omega
 rcases this with rfl | rfl
 ·
  exact ⟨2, by omega, by omega, h.2.1⟩
 ·
  exact ⟨1, by omega, by omega, h.2.2⟩
def outS (s : RunS) : OutT := ⟨s.kind, s.code, s.out, s.val⟩
theorem ref_eq {P : List VFnT} {lens : List Int} {f : Int} {args : List Int} {fuel most : Int} : bD P lens f args fuel most = (runV P lens f args fuel most).map outS := by
 by_cases h : okR P lens f args fuel
 ·
  have hp := jD h.1
  have hm := gh (P := P) ⟨h.2.1, h.2.2.1⟩
  have hl := hp.lim _ hm
  have hr := jQ hp (most.toNat + 2) (iniI lens fuel most) (P.getD f.toNat default) (List.replicate (P.getD f.toNat default).regs.toNat 0) [] args 0 0 [] 0 (Nat.lt_succ_self _) rfl rfl hm ⟨Int.le_refl 0, by omega⟩ (Nat.zero_le _) (rge_zero hl.2.2.1)
  have O : goV P (most.toNat + 2) (iniI lens fuel most) (P.getD f.toNat default) (List.replicate (P.getD f.toNat default).regs.toNat 0) args 0 0 = ce P (iniI lens fuel most) f args := rfl
  have T : Mst (iniI lens fuel most) [] ⟨P.getD f.toNat default, [], args, 0, ((0 : Nat) : Int), 0⟩ = iniV P lens f args fuel := rfl
  rw [O, T] at hr
  have U : (iniI lens fuel most).most.toNat = most.toNat := rfl
  rw [U] at hr
  generalize ht : ce P (iniI lens fuel most) f args = t at hr
  cases hlg : t.1.long with
  | true => rw [← rf_long h ht.symm hlg, ← run_late rfl (hr.long hlg)]; rfl
  | false =>
   cases hov : t.1.over with
   | true =>
    obtain ⟨j, V, J, A, I, Z, h6⟩ := hr.over hlg hov
    have z := ll J (most.toNat - j)
    rw [show j + (most.toNat - j) = most.toNat by omega] at z
    rw [← rf_over h ht.symm hlg hov, ← run_yes h rfl (by rw [z]; exact J), z]
    show some _ = some (outS _)
    unfold outS
    rw [A, I, Z, h6]
   | false =>
    obtain ⟨j, top, V, J, A⟩ := hr.ret hlg hov
    have eb : i0 (Mst t.1 [] top) t.2 = stopV (Mst t.1 [] top) 1 0 t.2 := by unfold i0; rw [if_pos (show (Mst t.1 [] top).low = [] from rfl)]
    rw [eb] at A
    have I : (itV P j (iniV P lens f args fuel)).over = true := by rw [A]
    have z := ll I (most.toNat - j)
    rw [show j + (most.toNat - j) = most.toNat by omega] at z
    rw [← rf_ret h ht.symm hlg hov, ← run_yes h rfl (by rw [z]; exact I), z, A]
    rfl
 ·
  rw [← rf_no h, ← run_no h]; rfl
structure VFnH where
 params : Int
 regs : Int
 h : Hd
 deriving Inhabited
instance : Rp VFnH where
 sz := 3
 rep F cs x := cs = [.int .i64 x.params, .int .i64 x.regs, .slice x.h.a x.h.n x.h.k] ∧ in64 x.params ∧ in64 x.regs
 len := by rintro F cs x ⟨rfl, _⟩; rfl
 one := by rintro F cs x ⟨rfl, _⟩; rfl
 mono := by intro F F' cs x _ h; exact h
theorem VFnH.vw {F : Fz} {get : Nat → Option AObj} {v : Value} {cf : Nat → List Value} {j : Nat} {l : List VFnH} (h : VW F get v l cf j) (hj : j < l.length) : HC get (sB v) (sO v + j * Rp.sz VFnH) [.int .i64 (l.getD j default).params, .int .i64 (l.getD j default).regs, .slice (l.getD j default).h.a (l.getD j default).h.n (l.getD j default).h.k] := by
 obtain ⟨⟨A, _⟩, z⟩ := h.1 default hj
 rw [show cf j = _ from A] at z; exact z
theorem VFnH.fx {F : Fz} {get : Nat → Option AObj} {v : Value} {cf : Nat → List Value} {j : Nat} {l : List VFnH} (h : VW F get v l cf j) : in64 (l.getD j default).params ∧ in64 (l.getD j default).regs := by
 rcases Nat.lt_or_ge j l.length with hj | hj
 ·
  obtain ⟨⟨A, h0, z⟩, _⟩ := h.1 default hj
  exact ⟨h0, z⟩
 ·
  rw [dj hj]; exact ⟨by decide, by decide⟩
theorem qset {α : Type} {l : List α} {j : Nat} {y d : α} (h : j < l.length) : (l.set j y).getD j d = y := by rw [List.getD_eq_getElem?_getD, List.getElem?_set_self h]; rfl
structure HRel (F : Fz) (x : VFnH) (y : VFnT) : Prop where
 params : x.params = y.params
 regs : x.regs = y.regs
 n : x.h.n = y.blocks.length
 sr : SR F (.slice x.h.a y.blocks.length x.h.k) y.blocks
theorem RL.toH {F : Fz} : ∀ {l : List VFnT} {cs : List Value}, RL F cs l → ∃ qh : List VFnH, qh.length = l.length ∧ RL F cs qh ∧ ∀ j, j < l.length → HRel F (qh.getD j default) (l.getD j default)
 | [], cs, h => ⟨[], rfl, h, fun j hj => absurd hj (Nat.not_lt_zero _)⟩
 | x :: l, cs, ⟨c, r, e, J, O⟩ => by
  obtain ⟨qh, z, A, I⟩ := RL.toH O
  obtain ⟨a, k, rfl, k1, k2, T⟩ := J
  refine ⟨⟨x.params, x.regs, ⟨a, x.blocks.length, k⟩⟩ :: qh, by rw [List.length_cons, List.length_cons, z], ⟨_, r, e, ⟨rfl, k1, k2⟩, A⟩, fun j hj => ?_⟩
  cases j with
  | zero => exact ⟨rfl, rfl, rfl, T⟩
  | succ j => exact I j (by simpa using hj)
theorem toH {F : Fz} {v : Value} {l : List VFnT} {q : Fp} (h : OS F v l q) : ∃ qh : List VFnH, qh.length = l.length ∧ OS F v qh q ∧ ∀ j, j < l.length → HRel F (qh.getD j default) (l.getD j default) := by
 rcases h with ⟨A, rfl, I⟩ | ⟨b, off, k, cs, opn, A, T, cs', opn', ro', e, I, U, V, Z⟩
 ·
  exact ⟨[], rfl, .inl ⟨A, rfl, I⟩, fun j hj => absurd hj (Nat.not_lt_zero _)⟩
 ·
  obtain ⟨qh, z, J, O⟩ := RL.toH V
  exact ⟨qh, z, .inr ⟨b, off, k, cs, opn, by rw [z]; exact A, T, cs', opn', ro', e, I, by rw [z]; exact U, by rw [z]; exact J, Z⟩, O⟩
theorem ofH {F : Fz} {v : Value} {l : List VFnT} {qh : List VFnH} (h : SR F v qh) (hl : qh.length = l.length) (k : ∀ j, j < l.length → HRel F (qh.getD j default) (l.getD j default)) : SR F v l := by
 refine SR.conv (α := VFnH) (β := VFnT) rfl h hl F.le_refl fun i x y hx hy c hc => ?_
 have hi := (List.getElem?_eq_some_iff.1 hy).1
 have k1 := k i hi
 have z : qh.getD i default = x := by rw [List.getD_eq_getElem?_getD, hx]; rfl
 have A : l.getD i default = y := by rw [List.getD_eq_getElem?_getD, hy]; rfl
 rw [z, A] at k1
 obtain ⟨rfl, I, J⟩ := hc
 exact ⟨x.h.a, x.h.k, by rw [k1.params, k1.regs, k1.n], by rw [← k1.params]; exact I, by rw [← k1.regs]; exact J, k1.sr⟩
theorem backH {F : Fz} {v : Value} {l : List VFnT} {qh : List VFnH} {f bk at_ : Nat} {v0 : VInT} {P R : Int} {a : Option Addr} {n k : Nat} (h : SR F v (qh.set f ⟨P, R, ⟨a, n, k⟩⟩)) (hq : qh.length = l.length) (hr : ∀ j, j < l.length → HRel F (qh.getD j default) (l.getD j default))
  (hP : P = (qh.getD f default).params) (hR : R = (qh.getD f default).regs) (hn : n = (l.getD f default).blocks.length) (hf : f < l.length)
  (hb : SR F (.slice a n k) ((l.getD f default).blocks.set bk ⟨((l.getD f default).blocks.getD bk default).ins.take at_ ++ [v0] ++ ((l.getD f default).blocks.getD bk default).ins.drop at_, ((l.getD f default).blocks.getD bk default).fin, ((l.getD f default).blocks.getD bk default).reg, ((l.getD f default).blocks.getD bk default).tgt, ((l.getD f default).blocks.getD bk default).els⟩)) :
  SR F v (l.set f (fH (l.getD f default) bk at_ v0)) := by
 refine ofH h (by rw [List.length_set, List.length_set]; exact hq) fun j hj => ?_
 rw [List.length_set] at hj
 by_cases e : j = f
 ·
  subst e
  rw [qset (by omega), qset hj]
  have g := hr j hj
  have el : ((l.getD j default).blocks.set bk (insB (cC (l.getD j default) bk) at_ v0)).length = (l.getD j default).blocks.length := List.length_set
  refine ⟨hP.trans g.params, hR.trans g.regs, hn.trans el.symm, ?_⟩
  show SR F (.slice a ((l.getD j default).blocks.set bk (insB (cC (l.getD j default) bk) at_ v0)).length k) ((l.getD j default).blocks.set bk (insB (cC (l.getD j default) bk) at_ v0))
  rw [el, ← hn]
  rw [List.append_assoc] at hb
  exact hb
 ·
  have z : (qh.set f (⟨P, R, ⟨a, n, k⟩⟩ : VFnH)).getD j default = qh.getD j default := by rw [List.getD_eq_getElem?_getD, List.getElem?_set_ne (fun h => e h.symm), ← List.getD_eq_getElem?_getD]
  have A : (l.set f (fH (l.getD f default) bk at_ v0)).getD j default = l.getD j default := by rw [List.getD_eq_getElem?_getD, List.getElem?_set_ne (fun h => e h.symm), ← List.getD_eq_getElem?_getD]
  rw [z, A]; exact hr j hj
theorem dead_bd {l : List VFnT} {f bk at_ : Nat} {v0 : VInT} (h : bdP l) (hf : f < l.length) (hi : ((l.getD f default).blocks.getD bk default).ins.length ≤ 11) : bdP (l.set f (fH (l.getD f default) bk at_ v0)) := bdP_of fun y hy j => by
 rcases List.mem_or_eq_of_mem_set hy with hy | rfl
 ·
  exact bdP_mem h y hy j
 ·
  show (((l.getD f default).blocks.set bk (insB (cC (l.getD f default) bk) at_ v0)).getD j default).ins.length ≤ 1000
  rw [fP]
  split
  ·
   show (((l.getD f default).blocks.getD bk default).ins.take at_ ++ ([v0] ++ ((l.getD f default).blocks.getD bk default).ins.drop at_)).length ≤ 1000
   rw [List.length_append, List.length_append, List.length_take, List.length_drop, List.length_singleton]; omega
  ·
   exact h f j
theorem HRel.mono {F F' : Fz} (hF : F.le F') {x : VFnH} {y : VFnT} (h : HRel F x y) : HRel F' x y := ⟨h.params, h.regs, h.n, h.sr.mono hF⟩
theorem con_mem {l : List Int} {n : Int} (h : conV l n = false) : n ∉ l := fun hm => by
 unfold conV at h
 rw [List.any_eq_false] at h
 exact h n hm (decide_eq_true rfl)
theorem dead_fin {P ql : List VFnT} {lens : List Int} {c : VFnT} {bk at_ : Nat} {rj value g fuel : Int} {args la : List Int} (hql : ql = P.set g.toNat (fH c bk at_ (ldi rj value))) (h0 : 0 ≤ rj) (hv : 0 ≤ g ∧ g < (P.length : Int)) (hc : P.getD g.toNat default = c) (hb : bk < c.blocks.length) (ha : at_ ≤ (cC c bk).ins.length) (hr : rj < c.regs)
  (hl : Lst la (ptS c bk at_)) (hd : conV la rj = false) : ((!(bD P lens g args fuel 100).isSome) || ((bD ql lens g args fuel 300).isSome && decide (oV (bD P lens g args fuel 100) = oV (bD ql lens g args fuel 300)))) = true := by
 obtain ⟨r, rfl⟩ : ∃ r : Nat, rj = (r : Int) := ⟨rj.toNat, by omega⟩
 have z : ¬ pS c bk at_ r := fun h => con_mem hd ((hl.mem _).2 ⟨Int.natCast_nonneg r, by rw [Int.toNat_natCast]; exact h⟩)
 rw [ref_eq, ref_eq]
 cases hX : runV P lens g args fuel 100 with
 | none => rfl
 | some s =>
  obtain ⟨t, e, k1, k2, A, I⟩ := dead_run (x := value) hv hc hb ha hr z hX
  rw [← hql] at e
  rw [e]
  simp [outS, oV, k1, k2, A, I]
theorem ex_c (_ : FuncId) {F : Fz} {H : Heap} {R : List Fp} (hs : HS (.of H []) F H [] R) (hT : TB 37 tabC F) : C Tryd.prog 1 (KT 60 15 37 tabC) 15 [] H fun v H' => ∃ (r : Bool), H' = H ∧ v = .bool r ∧ r = true :=
 ⟨0, .bool true, H, by unfold call j9; rw [(hT.heap hs).known (by decide)], true, rfl, rfl, rfl⟩
theorem ex_c_q (e : FuncId) {F : Fz} {H : Heap} {R : List Fp} (hs : HS (.of H []) F H [] R) (hT : TB 37 tabC F) : C Tryd.prog 1 (KT 60 15 37 tabC) 15 [] H fun v H' => v = .bool true ∧ H' = H := cq (ex_c e hs hT) (by rintro _ _ ⟨_, rfl, rfl, rfl⟩; exact ⟨rfl, rfl⟩)
set_option maxHeartbeats 2000000 in
theorem dead_law {a_l : Option Addr} {k_l : Nat} (l : List Int) {a_m : Option Addr} {k_m : Nat} (m : List Int) (fi : Int) (block : Int) (at_ : Int) (reg : Int) (value : Int) (a : Int) (b : Int) (w : Int) (fuel : Int) {F : Fz} {H : Heap} {R : List Fp} (hs : HS (.of H []) F H [] R) (hl : SR F (.slice a_l l.length k_l) l) (hm : SR F (.slice a_m m.length k_m) m) (hfi : in64 fi) (hblock : in64 block) (hat_ : in64 at_) (hreg : in64 reg) (hvalue : in64 value) (ha : in64 a) (hb : in64 b) (hw : in64 w) (hfuel : in64 fuel) (hT : TB 37 tabC F) : C Tryd.prog 1 (KT 60 15 37 tabC) 5 [(.slice a_l l.length k_l), (.slice a_m m.length k_m), (iI fi), (iI block), (iI at_), (iI reg), (iI value), (iI a), (iI b), (iI w), (iI fuel)] H fun v H' => ∃ (r : Bool) (F' : Fz), Fz.le F F' ∧ HS (.of H []) F' H' [] R ∧ v = .bool r ∧ r = true := by
 refine aL Tryd.func5 rfl rfl ?_
 refine ao 1 rfl ?_
 refine wR 2 [] 22 22 [] [(22, (.bool false))] trivial rfl fun _ => ?_
 refine ab ?_
 refine wRo 2 0 [] 35 36 [] [(35, (.slice a_l l.length k_l)), (36, (.slice a_m m.length k_m))] trivial rfl fun _ => ?_
 refine aD (az rfl rfl rfl) rfl rfl (m6.vfuncs_c 15 l m (HS.call hs) hl hm hT) ?_
 rintro _ H3 ⟨b5, b6, z, f7, hr, q3, F3, g5, a2, rfl, I, a1, rfl, h3⟩
 replace a2 := HS.back hs rfl a2
 have a2 : HS _ _ _ [] _ := a2
 replace hT := hT.mono g5
 refine wRo 5 3 [] 38 39 [23, 24, 34] [(23, (.slice b5 z.length b6)), (24, (.slice f7 [3, 2].length hr))] trivial rfl fun _ => ?_
 refine ai 2 rfl ?_
 have h_ : z.length = 2 ∧ vfG (z.getD 0 default) 2 ∧ vfG (z.getD 1 default) 1 := by assumption
 have h_l := h_.1
 have hpf := dE fi 2 (by omega)
 obtain ⟨gn, nN, nO, hgn⟩ := g_at h_ (k := (aB fi 2).toNat) (by omega)
 have hgp := hgn.par
 have hgl : z.getD (aB fi 2).toNat default ∈ z := by rw [List.getD_eq_getElem?_getD, List.getElem?_eq_getElem (by omega)]; exact List.getElem_mem _
 have nH := dE fi (2 : Int)
 refine wR 2 [(1, .o (iI (aB fi (2 : Int))))] 40 41 [2] [(2, (iI (aB fi (2 : Int))))] (vA (m1.ek 15 fi (2) H3 (by omega)) trivial) rfl fun _ => ?_
 have hgb := hgn.nb
 have hgr := hgn.reg
 have hgi := hgn.ins
 have hgv := hgn.val
 have na := (vF_of hgv).nb
 generalize hq_fj : aB fi (2 : Int) = fj at *
 obtain ⟨h2, h4⟩ := Sv.view (SR.sv I a2)
 obtain ⟨mZ, m0, nk⟩ := VFnT.fx (h4 fj.toNat)
 have nI := dE block ((z.getD fj.toNat default).blocks.length : Int)
 refine wR 2 [(5, .o (.slice (cA (h2 fj.toNat) 2) (z.getD fj.toNat default).blocks.length (cK (h2 fj.toNat) 2))), (7, .o (iI (aB block ((z.getD fj.toNat default).blocks.length : Int))))] 42 49 [3] [(3, (iI (aB block ((z.getD fj.toNat default).blocks.length : Int))))] (vA (Sv.ix (j := fj) (SR.sv I a2) (by omega) (by omega)) (vA (ql 22 2 (VFnT.vw (h4 fj.toNat) (by omega)) rfl rfl) (vA (m1.ek 15 block ((z.getD fj.toNat default).blocks.length : Int) H3 (by omega)) trivial))) rfl fun _ => ?_
 generalize hq_bj : aB block ((z.getD fj.toNat default).blocks.length : Int) = bj at *
 have hgib := hgi bj.toNat
 refine ab ?_
 obtain ⟨g2, he⟩ := Sv.view (SR.sv I a2)
 obtain ⟨mq, mr, f3⟩ := VFnT.fx (he fj.toNat)
 obtain ⟨O, hf⟩ := Sv.view (SR.sv f3 a2)
 obtain ⟨ms, mu, mv, mw, a6⟩ := BlkT.fx (hf bj.toNat)
 let ih : Value := (.agg ⟨[(.slice (cA (O bj.toNat) 0) ((z.getD fj.toNat default).blocks.getD bj.toNat default).ins.length (cK (O bj.toNat) 0)), (iI ((z.getD fj.toNat default).blocks.getD bj.toNat default).fin), (iI ((z.getD fj.toNat default).blocks.getD bj.toNat default).reg), (iI ((z.getD fj.toNat default).blocks.getD bj.toNat default).tgt), (iI ((z.getD fj.toNat default).blocks.getD bj.toNat default).els)]⟩)
 refine wRo 8 0 [(4, .o (.slice (cA (g2 fj.toNat) 2) (z.getD fj.toNat default).blocks.length (cK (g2 fj.toNat) 2))), (7, .o ih)] 50 57 [] [(57, ih)] (vA (Sv.ix (j := fj) (SR.sv I a2) (by omega) (by omega)) (vA (ql 22 2 (VFnT.vw (he fj.toNat) (by omega)) rfl rfl) (vA (Sv.ix (j := bj) (SR.sv f3 a2) (by omega) (by omega)) (vA (qn 42 0 5 (BlkT.vw (hf bj.toNat) (by omega)) rfl rfl rfl rfl) trivial)))) rfl fun _ => ?_
 refine aR (bK a2 rfl) rfl rfl ?_
 rintro _ nt _ ⟨a7, rfl, ez, _⟩
 have ez : HS _ _ _ [[(a7, .cells [(.slice none 0 0), (iI 0), (iI 0), (iI 0), (iI 0)] none false)]] _ := ez
 refine aU (aG (q := 0) ez rfl rfl rfl rfl rfl rfl rfl rfl rfl) rfl ?_
 rintro _ hW _ ⟨ap, _⟩
 let ik : Fp := [(a7, .cells [(.slice (cA (O bj.toNat) 0) ((z.getD fj.toNat default).blocks.getD bj.toNat default).ins.length (cK (O bj.toNat) 0)), (iI ((z.getD fj.toNat default).blocks.getD bj.toNat default).fin), (iI ((z.getD fj.toNat default).blocks.getD bj.toNat default).reg), (iI ((z.getD fj.toNat default).blocks.getD bj.toNat default).tgt), (iI ((z.getD fj.toNat default).blocks.getD bj.toNat default).els)] none false)]
 have ap : HS _ _ _ [ik] _ := ap
 refine ai 2 rfl ?_
 have mX := dE at_ ((((z.getD fj.toNat default).blocks.getD bj.toNat default).ins.length : Int) + 1)
 refine wR 2 [(2, .o (.slice (cA (O bj.toNat) 0) ((z.getD fj.toNat default).blocks.getD bj.toNat default).ins.length (cK (O bj.toNat) 0))), (5, .o (iI (aB at_ ((((z.getD fj.toNat default).blocks.getD bj.toNat default).ins.length : Int) + 1))))] 58 63 [4] [(4, (iI (aB at_ ((((z.getD fj.toNat default).blocks.getD bj.toNat default).ins.length : Int) + 1))))] (vA (ql 40 0 (HS.hc ap (i := 0) rfl) rfl rfl) (vA (vi (n := (((z.getD fj.toNat default).blocks.getD bj.toNat default).ins.length : Int) + 1) (by omega)) (vA (m1.ek 15 at_ ((((z.getD fj.toNat default).blocks.getD bj.toNat default).ins.length : Int) + 1) hW (by omega)) trivial))) rfl fun _ => ?_
 generalize hq_aj : aB at_ ((((z.getD fj.toNat default).blocks.getD bj.toNat default).ins.length : Int) + 1) = aj at *
 obtain ⟨mU, hg⟩ := Sv.view (SR.sv I ap)
 obtain ⟨mx, my, mK⟩ := VFnT.fx (hg fj.toNat)
 have mY := dE reg (z.getD fj.toNat default).regs
 refine wR 2 [(5, .o (iI (z.getD fj.toNat default).regs)), (6, .o (iI (aB reg (z.getD fj.toNat default).regs)))] 64 70 [5] [(5, (iI (aB reg (z.getD fj.toNat default).regs)))] (vA (Sv.ix (j := fj) (SR.sv I ap) (by omega) (by omega)) (vA (ql 3 1 (VFnT.vw (hg fj.toNat) (by omega)) rfl rfl) (vA (m1.ek 15 reg (z.getD fj.toNat default).regs hW (by omega)) trivial))) rfl fun _ => ?_
 generalize hq_rj : aB reg (z.getD fj.toNat default).regs = rj at *
 refine ab ?_
 obtain ⟨g3, hh⟩ := Sv.view (SR.sv I ap)
 obtain ⟨mz, mA, hR⟩ := VFnT.fx (hh fj.toNat)
 let il : Value := (.agg ⟨[(iI (z.getD fj.toNat default).params), (iI (z.getD fj.toNat default).regs), (.slice (cA (g3 fj.toNat) 2) (z.getD fj.toNat default).blocks.length (cK (g3 fj.toNat) 2))]⟩)
 refine wRo 5 0 [(3, .o il)] 71 75 [] [(74, il), (75, (iI bj))] (vA (Sv.ix (j := fj) (SR.sv I ap) (by omega) (by omega)) (vA (qn 24 0 3 (VFnT.vw (hh fj.toNat) (by omega)) rfl rfl rfl rfl) trivial)) rfl fun _ => ?_
 refine aD (az rfl rfl rfl) rfl rfl (md.points_c 15 (z.getD fj.toNat default) bj (HS.call ap) (by omega) (by omega) hR (by omega) hT (by exact fun j => Nat.le_trans (hgi j) (by omega))) ?_
 rintro _ nu ⟨jb, k0, a8, cv, b7, Z, rfl, f1, jq, m9⟩
 replace Z := HS.back ap rfl Z
 have Z : HS _ _ _ [ik] _ := Z
 replace hT := hT.mono b7
 replace I := I.mono b7
 replace a1 := a1.mono b7
 replace a6 := a6.mono b7
 refine wa (.slice jb a8.length k0) rfl rfl rfl ?_
 refine ai 3 rfl ?_
 have hpt : PtF (z.getD fj.toNat default) bj.toNat a8 := jq hgv (by omega) (by omega)
 have hll := Lst.len (hpt.pt aj.toNat (show aj.toNat ≤ ((z.getD fj.toNat default).blocks.getD bj.toNat default).ins.length by omega)) (m := (z.getD fj.toNat default).regs) (by omega) (fun r h => pt_lt (vF_of hgv) (by omega) h)
 have hpl : a8.length = ((z.getD fj.toNat default).blocks.getD bj.toNat default).ins.length + 1 := hpt.len
 refine wR 1 [(3, .o (.slice (cA (O bj.toNat) 0) ((z.getD fj.toNat default).blocks.getD bj.toNat default).ins.length (cK (O bj.toNat) 0)))] 77 83 [] [(83, (.bool ((a8.length : Int) != (((z.getD fj.toNat default).blocks.getD bj.toNat default).ins.length : Int) + 1)))] (vA (ql 40 0 (HS.hc Z (i := 0) rfl) rfl rfl) (vA (vi (n := (((z.getD fj.toNat default).blocks.getD bj.toNat default).ins.length : Int) + 1) (by omega)) trivial)) rfl fun _ => ?_
 refine wk_iff 3 (v := ((a8.length : Int) != (((z.getD fj.toNat default).blocks.getD bj.toNat default).ins.length : Int) + 1)) rfl (by simp only [bne_eq_false_iff_eq]; omega) rfl rfl ?_
 obtain ⟨g4, hk⟩ := Sv.view (SR.sv f1 Z)
 have mo := fL (hk aj.toNat)
 refine wR 1 [(3, .o (.slice (cA (g4 aj.toNat) 0) (a8.getD aj.toNat default).length (cK (g4 aj.toNat) 0))), (5, .o (.bool (conV (a8.getD aj.toNat default) rj)))] 84 89 [] [(89, (.bool (conV (a8.getD aj.toNat default) rj)))] (vA (Sv.ix (j := aj) (SR.sv f1 Z) (by omega) (by omega)) (vA (ql 25 0 (vL (hk aj.toNat) (by omega)) rfl rfl) (vA (m6.contains_c_q 15 (a8.getD aj.toNat default) rj (HS.call Z) mo (by omega) hT (by omega)) trivial))) rfl fun _ => ?_
 refine am 1 2 (v := (conV (a8.getD aj.toNat default) rj)) rfl rfl rfl rfl (fun g1 => ?_) (fun g1 => ?_)
 ·
  try simp only [BS] at g1
  refine wR 1 [(0, .o (.bool true))] 22 22 [90] [(22, (.bool true))] (vA (ex_c_q 15 (HS.call Z) hT) trivial) rfl fun _ => ?_
  refine ah ⟨.inr rfl, _, rfl, true, _, (fT (g5) b7), (HS.forget Z), rfl, (by rfl)⟩
 ·
  try simp only [BS] at g1
  refine ab ?_
  let hC : Value := (.agg ⟨[(iI 13), (iI rj), (iI 0), (iI 0), (iI value), (.slice none 0 0)]⟩)
  refine wRo 4 0 [] 91 94 [] [(94, hC)] trivial rfl fun _ => ?_
  refine aR (bK Z rfl) rfl rfl ?_
  rintro _ nv _ ⟨f9, rfl, e0, _⟩
  have e0 : HS _ _ _ [_, [(f9, .cells [(iI 0), (iI 0), (iI 0), (iI 0), (iI 0), (.slice none 0 0)] none false)]] _ := e0
  refine aU (aG (q := 1) e0 rfl rfl rfl rfl rfl rfl rfl rfl rfl) rfl ?_
  rintro _ nw _ ⟨e1, _⟩
  let iv : Fp := [(f9, .cells [(iI 13), (iI rj), (iI 0), (iI 0), (iI value), (.slice none 0 0)] none false)]
  have e1 : HS _ _ _ [_, iv] _ := e1
  refine ai 2 rfl ?_
  refine ab ?_
  refine wm (.slice b5 z.length b6) rfl rfl rfl ?_
  have ds := HS.snoc e1
  have ds : HS _ _ _ [_, _, []] _ := ds
  refine aR (cQ (α := VFnT) (q := 2) (OS.nil : OS cv (.slice none 0 0) ([] : List VFnT) []) ds rfl rfl rfl (SR.sv I ds) rfl rfl rfl rfl rfl rfl rfl (by (simp only [List.length_nil]; omega))) rfl rfl ?_
  rintro _ nx h6 ⟨T, U, rfl, ex, c4, _⟩
  have c4 : HS _ _ _ [_, _, h6] _ := c4
  have ex : OS cv (.slice T z.length U) z h6 := ex
  refine wa (.slice T z.length U) rfl rfl rfl ?_
  refine ai 2 rfl ?_
  obtain ⟨qh, hqe, hoq, hqr⟩ := toH ex
  refine ab ?_
  obtain ⟨c8, hn⟩ := Sv.view (SR.sv I c4)
  obtain ⟨mB, mC, hS⟩ := VFnT.fx (hn fj.toNat)
  refine wRo 7 0 [(6, .o (.slice (cA (c8 fj.toNat) 2) (z.getD fj.toNat default).blocks.length (cK (c8 fj.toNat) 2)))] 97 103 [] [(97, (.slice T z.length U)), (98, (iI fj)), (103, (.slice (cA (c8 fj.toNat) 2) (z.getD fj.toNat default).blocks.length (cK (c8 fj.toNat) 2)))] (vA (Sv.ix (j := fj) (SR.sv I c4) (by omega) (by omega)) (vA (ql 22 2 (VFnT.vw (hn fj.toNat) (by omega)) rfl rfl) trivial)) rfl fun _ => ?_
  have dt := HS.snoc c4
  have dt : HS _ _ _ [_, _, _, []] _ := dt
  refine aR (cQ (α := BlkT) (q := 3) (OS.nil : OS cv (.slice none 0 0) ([] : List BlkT) []) dt rfl rfl rfl (SR.sv hS dt) rfl rfl rfl rfl rfl rfl rfl (by (simp only [List.length_nil]; omega))) rfl rfl ?_
  rintro _ ny ht ⟨a0, a5, rfl, b9, dv, _⟩
  have dv : HS _ _ _ [_, _, _, ht] _ := dv
  have b9 : OS cv (.slice a0 (z.getD fj.toNat default).blocks.length a5) (z.getD fj.toNat default).blocks ht := b9
  refine wRo 2 8 [] 105 106 [] [(106, (.pointer (some ⟨sB (.slice T z.length U), sO (.slice T z.length U) + fj.toNat * Rp.sz VFnH + 2, none⟩)))] (vA (Sv.ix (j := fj) (OS.sv hoq dv (i := 2) rfl) (by omega) (by omega)) trivial) rfl fun _ => ?_
  refine aU (eh (α := VFnH) (j := fj.toNat) (off := 2) (q := 2) (⟨(qh.getD fj.toNat default).params, (qh.getD fj.toNat default).regs, (⟨a0, (z.getD fj.toNat default).blocks.length, a5⟩ : Hd)⟩ : VFnH) hoq dv rfl rfl rfl rfl rfl rfl rfl rfl (aS (x := default) (by omega)) rfl (by rintro cs ⟨rfl, mm, mn⟩; exact ⟨Nat.le_of_ble_eq_true rfl, ⟨rfl, mm, mn⟩⟩)) rfl ?_
  rintro _ l0 mi ⟨ch, co, _⟩
  have co : HS _ _ _ [_, _, mi, _] _ := co
  have mH := OS.len' ch
  refine ai 2 rfl ?_
  refine aV rfl ?_
  refine au (v := (.pointer (some ⟨a7, 0, none⟩))) (id := .v) (bQ rfl rfl) rfl rfl (jU rfl) (gb _) ?_
  refine au (v := (.slice (cA (O bj.toNat) 0) ((z.getD fj.toNat default).blocks.getD bj.toNat default).ins.length (cK (O bj.toNat) 0))) (id := .l a7) (aP (i := 0) rfl rfl (HS.hc co.log0 (i := 0) rfl) rfl rfl) rfl rfl (bg rfl) (⟨.inl rfl, trivial⟩) ?_
  refine fm (iI aj) rfl rfl rfl ?_
  refine dO (id := .q fun b => cv b ≠ none) (rs_cutt (α := VInT) (j := aj.toNat) a6 co.log0 rfl rfl rfl (optN (by omega)) (by omega)) rfl rfl (by rintro _ _ _ ⟨_, _, _, hH, _⟩; exact did_q rfl (SR.q a6)) (⟨.inl rfl, ⟨.inl rfl, ⟨.inl rfl, trivial⟩⟩⟩) ?_
  rintro _ _ _ ⟨nE, nP, rfl, c9, kk⟩ k3 hD
  simp only at c9; replace c9 := c9.symm; subst c9
  have g8 := HS.lg co.log0 co hD
  generalize ({ { l0 with log := [] } with log := k3 } : Heap) = mM at g8 ⊢
  have c5 := HS.snoc g8
  have c5 : HS _ _ _ [_, _, _, _, []] _ := c5
  refine dO (id := .x []) (cQ (α := VInT) (q := 4) (OS.nil : OS cv (.slice none 0 0) ([] : List VInT) []) c5.log0 rfl rfl rfl (SR.sv kk c5.log0) rfl rfl rfl rfl rfl rfl rfl (by (simp only [List.length_take, List.length_nil]; omega))) rfl rfl (by rintro _ _ f2 ⟨hX, h5, rfl, dl, _, hwr⟩; exact cF rfl rfl (Wr.did hwr)) (⟨.inl rfl, ⟨.inl rfl, ⟨.inl rfl, ⟨.inl rfl, trivial⟩⟩⟩⟩) ?_
  rintro _ l1 f2 ⟨hX, h5, rfl, dl, a3, _⟩ k4 hE
  replace a3 := HS.lg a3 c5 hE
  generalize ({ l1 with log := k4 } : Heap) = mN at a3 ⊢
  have a3 : HS _ _ _ [_, _, _, _, f2] _ := a3
  have dl : OS cv (.slice hX (((z.getD fj.toNat default).blocks.getD bj.toNat default).ins.take aj.toNat).length h5) (((z.getD fj.toNat default).blocks.getD bj.toNat default).ins.take aj.toNat) f2 := dl
  refine au (v := hC) (id := .l f9) (j0 (i := 0) rfl rfl rfl (HS.hc a3.log0 (i := 1) rfl) rfl rfl rfl) rfl rfl (bg rfl) (⟨.inr List.not_mem_nil, ⟨.inr trivial, ⟨.inr trivial, ⟨.inr trivial, ⟨.inr trivial, trivial⟩⟩⟩⟩⟩) ?_
  refine dO (id := .a) (ct (α := VInT) (ps := [(0, hC)]) (cells := [(iI 13), (iI rj), (iI 0), (iI 0), (iI value), (.slice none 0 0)]) ([(⟨(⟨13, rj, 0, 0, value⟩ : InsT), ([] : List Int)⟩ : VInT)] : List VInT) a3.log0 rfl rfl rfl (by kernel_rfl) ⟨[(iI 13), (iI rj), (iI 0), (iI 0), (iI value), (.slice none 0 0)], [], rfl, ⟨none, 0, rfl, by (dsimp only; omega), by (dsimp only; omega), by (dsimp only; omega), by (dsimp only; omega), by omega, SR.nil⟩, rfl⟩ rfl) rfl rfl (fun _ _ _ _ => did_a rfl rfl rfl) (⟨.inl rfl, ⟨.inr trivial, ⟨.inr trivial, ⟨.inr trivial, ⟨.inr trivial, ⟨.inr trivial, trivial⟩⟩⟩⟩⟩⟩) ?_
  rintro _ l2 h7 ⟨nF, nQ, rfl, ki, ad, _⟩ k5 hF
  replace ad := HS.lg ad a3 hF
  generalize ({ l2 with log := k5 } : Heap) = mO at ad ⊢
  have ad : HS _ _ _ [_, _, _, _, _, h7] _ := ad
  refine dO (id := .x (f2.map Prod.fst)) (cQ (α := VInT) (q := 4) dl ad.log0 rfl rfl rfl (OS.sv ki ad.log0 (i := 5) rfl) rfl rfl rfl rfl rfl rfl rfl (by (simp only [List.length_take, List.length_cons, List.length_nil]; omega))) rfl rfl (by rintro _ _ hu ⟨mg, mh, rfl, g6, _, hwr⟩; exact cF rfl rfl (Wr.did hwr)) (⟨.inl rfl, ⟨.inl rfl, ⟨.inl rfl, ⟨.inl rfl, ⟨.inl rfl, ⟨.inl rfl, ⟨.inl rfl, trivial⟩⟩⟩⟩⟩⟩⟩) ?_
  rintro _ l3 hu ⟨mg, mh, rfl, g6, aq, _⟩ k6 hG
  replace aq := HS.lg aq ad hG
  generalize ({ l3 with log := k6 } : Heap) = i1 at aq ⊢
  have aq : HS _ _ _ [_, _, _, _, hu, _] _ := aq
  refine au (v := (.pointer (some ⟨a7, 0, none⟩))) (id := .v) (bQ rfl rfl) rfl rfl (jU rfl) (gb _) ?_
  refine au (v := (.slice (cA (O bj.toNat) 0) ((z.getD fj.toNat default).blocks.getD bj.toNat default).ins.length (cK (O bj.toNat) 0))) (id := .l a7) (aP (i := 0) rfl rfl (HS.hc aq.log0 (i := 0) rfl) rfl rfl) rfl rfl (bg rfl) (⟨.inl rfl, ⟨.inr (HS.nin ad (i := 0) (j := 4) rfl rfl (by decide) (List.Mem.head _)), ⟨.inr trivial, ⟨.inr trivial, ⟨.inr List.not_mem_nil, ⟨.inr trivial, ⟨.inr trivial, ⟨.inr trivial, ⟨.inr trivial, trivial⟩⟩⟩⟩⟩⟩⟩⟩⟩) ?_
  refine fm (iI aj) rfl rfl rfl ?_
  refine dO (id := .q fun b => cv b ≠ none) (rs_cutd (α := VInT) (i := aj.toNat) a6 aq.log0 rfl rfl rfl (optN (by omega)) (by omega)) rfl rfl (by rintro _ _ _ ⟨_, _, _, hH, _⟩; exact did_q rfl (SR.q a6)) (⟨.inl rfl, ⟨.inl rfl, ⟨.inl rfl, ⟨.inr (HS.apq ad (i := 4) rfl), ⟨.inr trivial, ⟨.inr trivial, ⟨.inr (fun b hb => absurd hb List.not_mem_nil), ⟨.inr trivial, ⟨.inr trivial, ⟨.inr trivial, ⟨.inr trivial, trivial⟩⟩⟩⟩⟩⟩⟩⟩⟩⟩⟩) ?_
  rintro _ _ _ ⟨nG, nR, rfl, dd, kl⟩ k7 hI
  simp only at dd; replace dd := dd.symm; subst dd
  have d1 := HS.lg aq.log0 aq hI
  generalize ({ { i1 with log := [] } with log := k7 } : Heap) = mP at d1 ⊢
  refine dO (id := .x (hu.map Prod.fst)) (cQ (α := VInT) (q := 4) g6 d1.log0 rfl rfl rfl (SR.sv kl d1.log0) rfl rfl rfl rfl rfl rfl rfl (by (simp only [List.length_append, List.length_take, List.length_drop, List.length_cons, List.length_nil]; omega))) rfl rfl (by rintro _ _ h8 ⟨ec, em, rfl, g7, _, hwr⟩; exact cF rfl rfl (Wr.did hwr)) (⟨.inl rfl, ⟨.inl rfl, ⟨.inl rfl, ⟨.inl rfl, ⟨.inl rfl, ⟨.inl rfl, ⟨.inl rfl, ⟨.inl rfl, ⟨.inl rfl, ⟨.inl rfl, ⟨.inl rfl, ⟨.inl rfl, trivial⟩⟩⟩⟩⟩⟩⟩⟩⟩⟩⟩⟩) ?_
  rintro _ l4 h8 ⟨ec, em, rfl, g7, b3, _⟩ k8 hK
  replace b3 := HS.lg b3 d1 hK
  generalize ({ l4 with log := k8 } : Heap) = mQ at b3 ⊢
  have b3 : HS _ _ _ [_, _, _, _, h8, _] _ := b3
  refine au (v := (.pointer (some ⟨a7, 0, none⟩))) (id := .v) (bQ rfl rfl) rfl rfl (jU rfl) (gb _) ?_
  refine eu (id := .x [a7]) (aG (q := 0) b3.log0 rfl rfl rfl rfl rfl rfl rfl rfl rfl) rfl (by rintro _ _ _ ⟨_, hwr⟩; exact cF rfl rfl (Wr.did hwr)) (⟨.inl rfl, ⟨.inl rfl, ⟨.inl rfl, ⟨.inl rfl, ⟨.inl rfl, ⟨.inl rfl, ⟨.inl rfl, ⟨.inl rfl, ⟨.inl rfl, ⟨.inl rfl, ⟨.inl rfl, ⟨.inl rfl, ⟨.inl rfl, ⟨.inl rfl, trivial⟩⟩⟩⟩⟩⟩⟩⟩⟩⟩⟩⟩⟩⟩) ?_
  rintro _ l5 _ ⟨ag, _⟩ k9 hL
  replace ag := HS.lg ag b3 hL
  generalize ({ l5 with log := k9 } : Heap) = mR at ag ⊢
  let iz : Fp := [(a7, .cells [(.slice ec (((((z.getD fj.toNat default).blocks.getD bj.toNat default).ins.take aj.toNat) ++ ([(⟨(⟨13, rj, 0, 0, value⟩ : InsT), ([] : List Int)⟩ : VInT)] : List VInT)) ++ (((z.getD fj.toNat default).blocks.getD bj.toNat default).ins.drop aj.toNat)).length em), (iI ((z.getD fj.toNat default).blocks.getD bj.toNat default).fin), (iI ((z.getD fj.toNat default).blocks.getD bj.toNat default).reg), (iI ((z.getD fj.toNat default).blocks.getD bj.toNat default).tgt), (iI ((z.getD fj.toNat default).blocks.getD bj.toNat default).els)] none false)]
  have ag : HS _ _ _ [iz, _, _, _, _, _] _ := ag
  refine bZ ?_
  refine ao 2 rfl ?_
  refine aV rfl ?_
  refine fm (.slice T z.length U) rfl rfl rfl ?_
  refine fm (iI fj) rfl rfl rfl ?_
  refine au (v := (.pointer (some ⟨sB (.slice T z.length U), sO (.slice T z.length U) + fj.toNat * Rp.sz VFnH, none⟩))) (id := .v) (aW (α := VFnH) (j := fj) rfl rfl rfl rfl (OS.sv ch ag.log0 (i := 2) rfl) (by omega) (by omega)) rfl rfl (jU rfl) (gb _) ?_
  refine au (v := (.pointer (some ⟨sB (.slice T z.length U), sO (.slice T z.length U) + fj.toNat * Rp.sz VFnH + 2, none⟩))) (id := .v) (bQ rfl rfl) rfl rfl (jU rfl) (gb _) ?_
  obtain ⟨mV, hp⟩ := Sv.view (OS.sv ch ag.log0 (i := 2) rfl)
  obtain ⟨mD, mE⟩ := VFnH.fx (hp fj.toNat)
  refine au (v := (.slice ((qh.set fj.toNat (⟨(qh.getD fj.toNat default).params, (qh.getD fj.toNat default).regs, (⟨a0, (z.getD fj.toNat default).blocks.length, a5⟩ : Hd)⟩ : VFnH)).getD fj.toNat default).h.a ((qh.set fj.toNat (⟨(qh.getD fj.toNat default).params, (qh.getD fj.toNat default).regs, (⟨a0, (z.getD fj.toNat default).blocks.length, a5⟩ : Hd)⟩ : VFnH)).getD fj.toNat default).h.n ((qh.set fj.toNat (⟨(qh.getD fj.toNat default).params, (qh.getD fj.toNat default).regs, (⟨a0, (z.getD fj.toNat default).blocks.length, a5⟩ : Hd)⟩ : VFnH)).getD fj.toNat default).h.k)) (id := .l (sB (.slice T z.length U))) (aP (i := 2) rfl rfl (VFnH.vw (hp fj.toNat) (by omega)) rfl rfl) rfl rfl (bg rfl) (⟨.inl rfl, ⟨.inl rfl, ⟨.inl rfl, ⟨.inl rfl, trivial⟩⟩⟩⟩) ?_
  rw [show ((qh.set fj.toNat (⟨(qh.getD fj.toNat default).params, (qh.getD fj.toNat default).regs, (⟨a0, (z.getD fj.toNat default).blocks.length, a5⟩ : Hd)⟩ : VFnH)).getD fj.toNat default).h.a = a0 from by rw [qset (by omega)], show ((qh.set fj.toNat (⟨(qh.getD fj.toNat default).params, (qh.getD fj.toNat default).regs, (⟨a0, (z.getD fj.toNat default).blocks.length, a5⟩ : Hd)⟩ : VFnH)).getD fj.toNat default).h.n = (z.getD fj.toNat default).blocks.length from by rw [qset (by omega)], show ((qh.set fj.toNat (⟨(qh.getD fj.toNat default).params, (qh.getD fj.toNat default).regs, (⟨a0, (z.getD fj.toNat default).blocks.length, a5⟩ : Hd)⟩ : VFnH)).getD fj.toNat default).h.k = a5 from by rw [qset (by omega)]]
  refine fm (iI bj) rfl rfl rfl ?_
  refine au (v := (.agg ⟨[(.slice ec (((((z.getD fj.toNat default).blocks.getD bj.toNat default).ins.take aj.toNat) ++ ([(⟨(⟨13, rj, 0, 0, value⟩ : InsT), ([] : List Int)⟩ : VInT)] : List VInT)) ++ (((z.getD fj.toNat default).blocks.getD bj.toNat default).ins.drop aj.toNat)).length em), (iI ((z.getD fj.toNat default).blocks.getD bj.toNat default).fin), (iI ((z.getD fj.toNat default).blocks.getD bj.toNat default).reg), (iI ((z.getD fj.toNat default).blocks.getD bj.toNat default).tgt), (iI ((z.getD fj.toNat default).blocks.getD bj.toNat default).els)]⟩)) (id := .l a7) (j0 (i := 0) rfl rfl rfl (HS.hc ag.log0 (i := 0) rfl) rfl rfl rfl) rfl rfl (bg rfl) (⟨.inr trivial, ⟨.inr trivial, ⟨.inr trivial, ⟨.inr trivial, ⟨.inr trivial, ⟨.inr trivial, trivial⟩⟩⟩⟩⟩⟩) ?_
  refine au (v := (.pointer (some ⟨sB (.slice a0 (z.getD fj.toNat default).blocks.length a5), sO (.slice a0 (z.getD fj.toNat default).blocks.length a5) + bj.toNat * Rp.sz BlkT, none⟩))) (id := .v) (aW (α := BlkT) (j := bj) rfl rfl rfl rfl (OS.sv b9 ag.log0 (i := 3) rfl) (by omega) (by omega)) rfl rfl (jU rfl) (gb _) ?_
  obtain ⟨lX, a9, d2, kp, ne⟩ := OS.frz g7 ag (i := 4) rfl
  have d2 : HS _ _ _ [_, _, _, _, [], _] _ := d2
  replace hT := hT.mono a9
  replace b9 := b9.mono a9
  refine eu (id := .x (ht.map Prod.fst)) (eh (α := BlkT) (j := bj.toNat) (off := 0) (q := 3) (⟨((((z.getD fj.toNat default).blocks.getD bj.toNat default).ins.take aj.toNat) ++ ([(⟨(⟨13, rj, 0, 0, value⟩ : InsT), ([] : List Int)⟩ : VInT)] : List VInT)) ++ (((z.getD fj.toNat default).blocks.getD bj.toNat default).ins.drop aj.toNat), ((z.getD fj.toNat default).blocks.getD bj.toNat default).fin, ((z.getD fj.toNat default).blocks.getD bj.toNat default).reg, ((z.getD fj.toNat default).blocks.getD bj.toNat default).tgt, ((z.getD fj.toNat default).blocks.getD bj.toNat default).els⟩ : BlkT) b9 d2.log0 rfl rfl rfl rfl rfl rfl rfl rfl (aS (x := default) (by omega)) rfl (st_whole (F := lX) (Y := (⟨((((z.getD fj.toNat default).blocks.getD bj.toNat default).ins.take aj.toNat) ++ ([(⟨(⟨13, rj, 0, 0, value⟩ : InsT), ([] : List Int)⟩ : VInT)] : List VInT)) ++ (((z.getD fj.toNat default).blocks.getD bj.toNat default).ins.drop aj.toNat), ((z.getD fj.toNat default).blocks.getD bj.toNat default).fin, ((z.getD fj.toNat default).blocks.getD bj.toNat default).reg, ((z.getD fj.toNat default).blocks.getD bj.toNat default).tgt, ((z.getD fj.toNat default).blocks.getD bj.toNat default).els⟩ : BlkT)) (cl := [(.slice ec (((((z.getD fj.toNat default).blocks.getD bj.toNat default).ins.take aj.toNat) ++ ([(⟨(⟨13, rj, 0, 0, value⟩ : InsT), ([] : List Int)⟩ : VInT)] : List VInT)) ++ (((z.getD fj.toNat default).blocks.getD bj.toNat default).ins.drop aj.toNat)).length em), (iI ((z.getD fj.toNat default).blocks.getD bj.toNat default).fin), (iI ((z.getD fj.toNat default).blocks.getD bj.toNat default).reg), (iI ((z.getD fj.toNat default).blocks.getD bj.toNat default).tgt), (iI ((z.getD fj.toNat default).blocks.getD bj.toNat default).els)]) ⟨ec, em, rfl, by omega, by omega, by omega, by omega, kp⟩)) rfl (by rintro _ _ h9 ⟨c3, _, hwr⟩; exact cF rfl rfl (Wr.did hwr)) (⟨.inl rfl, ⟨.inl rfl, ⟨.inl rfl, ⟨.inl rfl, ⟨.inl rfl, ⟨.inl rfl, ⟨.inl rfl, ⟨.inl rfl, trivial⟩⟩⟩⟩⟩⟩⟩⟩) ?_
  rintro _ l6 h9 ⟨c3, a4, _⟩ la hM
  replace a4 := HS.lg a4 d2 hM
  generalize ({ l6 with log := la } : Heap) = mS at a4 ⊢
  have a4 : HS _ _ _ [_, _, _, h9, _, _] _ := a4
  have mI := OS.len' c3
  refine bZ ?_
  refine ao 2 rfl ?_
  refine aV rfl ?_
  refine fm (iI a) rfl rfl rfl ?_
  refine fm (iI b) rfl rfl rfl ?_
  refine fm (iI w) rfl rfl rfl ?_
  refine de (W := []) (az rfl rfl rfl) rfl rfl rfl (m6.args_c 15 a b w (HS.call a4.log0) (by omega) (by omega) (by omega) hT) (⟨.inl rfl, ⟨.inl rfl, ⟨.inl rfl, trivial⟩⟩⟩) ?_
  rintro _ l7 ⟨mT, nj, A, mj, nm, bb, J, rfl, hQ, nK⟩
  refine ⟨Wr.did J.log, fun lr hN => ?_⟩
  replace J := HS.back a4.log0 rfl J
  replace J := HS.lg J a4 hN
  generalize ({ l7 with log := lr } : Heap) = i2 at J ⊢
  have J : HS _ _ _ [_, _, _, _, _, _, mj] _ := J
  replace I := (I.mono a9).mono bb
  refine fm (.slice b5 z.length b6) rfl rfl rfl ?_
  refine fm (iI fj) rfl rfl rfl ?_
  refine au (v := (.pointer (some ⟨sB (.slice b5 z.length b6), sO (.slice b5 z.length b6) + fj.toNat * Rp.sz VFnT, none⟩))) (id := .v) (aW (α := VFnT) (j := fj) rfl rfl rfl rfl (SR.sv I J.log0) (by omega) (by omega)) rfl rfl (jU rfl) (gb _) ?_
  refine au (v := (.pointer (some ⟨sB (.slice b5 z.length b6), sO (.slice b5 z.length b6) + fj.toNat * Rp.sz VFnT, none⟩))) (id := .v) (bQ rfl rfl) rfl rfl (jU rfl) (gb _) ?_
  obtain ⟨mW, kr, kd⟩ := Sv.at (SR.sv I J.log0) (aS (x := default) (show fj.toNat < z.length from by omega))
  obtain ⟨mp, mJ, rfl, mF, mG, mL⟩ := kr
  refine au (v := (iI (z.getD fj.toNat default).params)) (id := .l (sB (.slice b5 z.length b6))) (aP (i := 0) rfl rfl kd rfl rfl) rfl rfl (bg rfl) (⟨.inl rfl, ⟨.inl rfl, ⟨.inl rfl, ⟨.inl rfl, ⟨.inr List.not_mem_nil, ⟨.inr trivial, ⟨.inr trivial, ⟨.inr trivial, trivial⟩⟩⟩⟩⟩⟩⟩⟩) ?_
  refine dO (id := .r) (rs_cutOt (α := Int) (j := (z.getD fj.toNat default).params.toNat) hQ J.log0 (q := 6) rfl rfl rfl rfl (optN (by omega)) (by omega)) rfl rfl (by rintro _ _ _ ⟨_, _, _, hH, _⟩; simp only at hH; subst hH; exact did_r fun b hb => absurd hb List.not_mem_nil) (⟨.inl rfl, ⟨.inl rfl, ⟨.inl rfl, ⟨.inl rfl, ⟨.inl rfl, ⟨.inl rfl, ⟨.inl rfl, ⟨.inl rfl, ⟨.inl rfl, trivial⟩⟩⟩⟩⟩⟩⟩⟩⟩) ?_
  rintro _ _ _ ⟨f6, hq, rfl, dk, kn⟩ lQ hP
  simp only at dk; replace dk := dk.symm; subst dk
  have g9 := HS.lg J.log0 J hP
  generalize ({ { i2 with log := [] } with log := lQ } : Heap) = i3 at g9 ⊢
  refine fa (.slice f6 (A.take (z.getD fj.toNat default).params.toNat).length hq) rfl rfl rfl ?_
  refine bZ ?_
  refine ao 2 rfl ?_
  have hpu := dE fuel 12 (by omega)
  refine ab ?_
  refine wRo 6 0 [(5, .o (iI (aB fuel 12)))] 140 145 [] [(140, (.slice b5 z.length b6)), (141, (.slice f7 [3, 2].length hr)), (142, (iI fj)), (143, (.slice f6 (A.take (z.getD fj.toNat default).params.toNat).length hq)), (145, (iI (aB fuel 12)))] (vA (m6.fuel_c_q 15 fuel i3 (by omega)) trivial) rfl fun _ => ?_
  obtain ⟨nn, bl, ea, dn, ng⟩ := OS.frz kn g9 (i := 6) rfl
  have ea : HS _ _ _ [_, _, _, _, _, _, []] _ := ea
  replace hT := (hT.mono bb).mono bl
  replace I := I.mono bl
  replace a1 := ((a1.mono a9).mono bb).mono bl
  refine aD (az rfl rfl rfl) rfl rfl (je.rrun_c 15 z [3, 2] fj (A.take (z.getD fj.toNat default).params.toNat) (aB fuel 12) (100) (HS.call ea) I a1 (by omega) dn (by omega) (by omega) hT (by omega) (by exact ⟨(by decide : ([3, 2] : List Int).length ≤ 1073741824), fun k j => Nat.le_trans (bd_p h_ k j) (by omega)⟩) (by exact fun c hc k => Nat.le_trans (bdP_mem (bd_p h_) c hc k) (by omega))) ?_
  rintro _ nz ⟨nX, ei, ep, nS, np, b0, c6, rfl, lR, lS, lT, ci, rfl, rfl, nL⟩
  replace c6 := HS.back ea rfl c6
  have c6 : HS _ _ _ [_, _, _, _, _, _, _] _ := c6
  replace c3 := ((c3.mono bb).mono bl).mono b0
  let hv : Value := (.agg ⟨[(iI ((oV (bD z [3, 2] fj (A.take (z.getD fj.toNat default).params.toNat) (aB fuel 12) (100 : Int))).kind)), (iI ((oV (bD z [3, 2] fj (A.take (z.getD fj.toNat default).params.toNat) (aB fuel 12) (100 : Int))).code)), (.slice ei ((oV (bD z [3, 2] fj (A.take (z.getD fj.toNat default).params.toNat) (aB fuel 12) (100 : Int))).out).length ep), (iI ((oV (bD z [3, 2] fj (A.take (z.getD fj.toNat default).params.toNat) (aB fuel 12) (100 : Int))).val))]⟩)
  refine wRo 3 7 [] 147 148 [139] [(147, hv), (148, (.bool (bD z [3, 2] fj (A.take (z.getD fj.toNat default).params.toNat) (aB fuel 12) (100 : Int)).isSome))] trivial rfl fun _ => ?_
  refine aR (bK c6 rfl) rfl rfl ?_
  rintro _ nA _ ⟨hY, rfl, e2, _⟩
  have e2 : HS _ _ _ [_, _, _, _, _, _, _, [(hY, .cells [(iI 0), (iI 0), (.slice none 0 0), (iI 0)] none false)]] _ := e2
  refine aU (aG (q := 7) e2 rfl rfl rfl rfl rfl rfl rfl rfl rfl) rfl ?_
  rintro _ l8 _ ⟨e3, _⟩
  let hz : Fp := [(hY, .cells [(iI ((oV (bD z [3, 2] fj (A.take (z.getD fj.toNat default).params.toNat) (aB fuel 12) (100 : Int))).kind)), (iI ((oV (bD z [3, 2] fj (A.take (z.getD fj.toNat default).params.toNat) (aB fuel 12) (100 : Int))).code)), (.slice ei ((oV (bD z [3, 2] fj (A.take (z.getD fj.toNat default).params.toNat) (aB fuel 12) (100 : Int))).out).length ep), (iI ((oV (bD z [3, 2] fj (A.take (z.getD fj.toNat default).params.toNat) (aB fuel 12) (100 : Int))).val))] none false)]
  have e3 : HS _ _ _ [_, _, _, _, _, _, _, hz] _ := e3
  refine wa (.bool (bD z [3, 2] fj (A.take (z.getD fj.toNat default).params.toNat) (aB fuel 12) (100 : Int)).isSome) rfl rfl rfl ?_
  refine ai 2 rfl ?_
  obtain ⟨nq, b1, e4, ey, nh⟩ := OS.frz c3 e3 (i := 3) rfl
  have e4 : HS _ _ _ [_, _, _, [], _, _, _, _] _ := e4
  replace ch := ((((ch.mono a9).mono bb).mono bl).mono b0).mono b1
  obtain ⟨hV, b2, eb, kt, ni⟩ := OS.frz ch e4 (i := 2) rfl
  have eb : HS _ _ _ [_, _, [], _, _, _, _, _] _ := eb
  replace hT := ((hT.mono b0).mono b1).mono b2
  replace dn := ((dn.mono b0).mono b1).mono b2
  replace ey := ey.mono b2
  replace a1 := ((a1.mono b0).mono b1).mono b2
  have hqt : SR hV (.slice T z.length U) (z.set fj.toNat (fH (z.getD fj.toNat default) bj.toNat aj.toNat (ldi rj value))) := backH (v0 := ldi rj value) kt hqe (fun j hj => (hqr j hj).mono (fT (fT (fT (fT (fT (a9) bb) bl) b0) b1) b2)) (by rfl) (by rfl) (by rfl) (by omega) ey
  obtain ⟨ql, hql⟩ : ∃ x, x = z.set fj.toNat (fH (z.getD fj.toNat default) bj.toNat aj.toNat (ldi rj value)) := ⟨_, rfl⟩
  rw [← hql] at hqt
  have hqn : z.length = ql.length := by rw [hql, List.length_set]
  replace hqt : SR hV (.slice T ql.length U) ql := by rw [← hqn]; exact hqt
  rw [show (Value.slice T z.length U) = .slice T ql.length U from by rw [hqn]]
  have hqb : bdP ql := by rw [hql]; exact dead_bd (bd_p h_) (by omega) (hgi bj.toNat)
  refine ab ?_
  refine wRo 6 0 [(5, .o (iI (aB fuel 12)))] 150 155 [] [(150, (.slice T ql.length U)), (151, (.slice f7 [3, 2].length hr)), (152, (iI fj)), (153, (.slice f6 (A.take (z.getD fj.toNat default).params.toNat).length hq)), (155, (iI (aB fuel 12)))] (vA (m6.fuel_c_q 15 fuel l8 (by omega)) trivial) rfl fun _ => ?_
  refine aD (az rfl rfl rfl) rfl rfl (je.rrun_c 15 ql [3, 2] fj (A.take (z.getD fj.toNat default).params.toNat) (aB fuel 12) (300) (HS.call eb) hqt a1 (by omega) dn (by omega) (by omega) hT (by omega) (by exact ⟨(by decide : ([3, 2] : List Int).length ≤ 1073741824), fun k j => Nat.le_trans (hqb k j) (by omega)⟩) (by exact fun c hc k => Nat.le_trans (bdP_mem hqb c hc k) (by omega))) ?_
  rintro _ nB ⟨nY, el, es, nT, lY, et, c7, rfl, lU, lV, lW, f4, rfl, rfl, nM⟩
  replace c7 := HS.back eb rfl c7
  have c7 : HS _ _ _ [_, _, _, _, _, _, _, _] _ := c7
  replace hT := hT.mono et
  replace ci := ((ci.mono b1).mono b2).mono et
  let hA : Value := (.agg ⟨[(iI ((oV (bD ql [3, 2] fj (A.take (z.getD fj.toNat default).params.toNat) (aB fuel 12) (300 : Int))).kind)), (iI ((oV (bD ql [3, 2] fj (A.take (z.getD fj.toNat default).params.toNat) (aB fuel 12) (300 : Int))).code)), (.slice el ((oV (bD ql [3, 2] fj (A.take (z.getD fj.toNat default).params.toNat) (aB fuel 12) (300 : Int))).out).length es), (iI ((oV (bD ql [3, 2] fj (A.take (z.getD fj.toNat default).params.toNat) (aB fuel 12) (300 : Int))).val))]⟩)
  refine wRo 3 7 [] 157 158 [149] [(157, hA), (158, (.bool (bD ql [3, 2] fj (A.take (z.getD fj.toNat default).params.toNat) (aB fuel 12) (300 : Int)).isSome))] trivial rfl fun _ => ?_
  refine aR (bK c7 rfl) rfl rfl ?_
  rintro _ nC _ ⟨h1, rfl, e5, _⟩
  have e5 : HS _ _ _ [_, _, _, _, _, _, _, _, [(h1, .cells [(iI 0), (iI 0), (.slice none 0 0), (iI 0)] none false)]] _ := e5
  refine aU (aG (q := 8) e5 rfl rfl rfl rfl rfl rfl rfl rfl rfl) rfl ?_
  rintro _ l9 _ ⟨ar, _⟩
  let hB : Fp := [(h1, .cells [(iI ((oV (bD ql [3, 2] fj (A.take (z.getD fj.toNat default).params.toNat) (aB fuel 12) (300 : Int))).kind)), (iI ((oV (bD ql [3, 2] fj (A.take (z.getD fj.toNat default).params.toNat) (aB fuel 12) (300 : Int))).code)), (.slice el ((oV (bD ql [3, 2] fj (A.take (z.getD fj.toNat default).params.toNat) (aB fuel 12) (300 : Int))).out).length es), (iI ((oV (bD ql [3, 2] fj (A.take (z.getD fj.toNat default).params.toNat) (aB fuel 12) (300 : Int))).val))] none false)]
  have ar : HS _ _ _ [_, _, _, _, _, _, _, _, hB] _ := ar
  refine wa (.bool (bD ql [3, 2] fj (A.take (z.getD fj.toNat default).params.toNat) (aB fuel 12) (300 : Int)).isSome) rfl rfl rfl ?_
  refine ai 2 rfl ?_
  refine wk_rcut 22 171 [] [(22, (.bool ((!(bD z [3, 2] fj (A.take (z.getD fj.toNat default).params.toNat) (aB fuel 12) (100 : Int)).isSome) || ((bD ql [3, 2] fj (A.take (z.getD fj.toNat default).params.toNat) (aB fuel 12) (300 : Int)).isSome && decide ((oV (bD z [3, 2] fj (A.take (z.getD fj.toNat default).params.toNat) (aB fuel 12) (100 : Int))) = (oV (bD ql [3, 2] fj (A.take (z.getD fj.toNat default).params.toNat) (aB fuel 12) (300 : Int))))))))] (fun H' => ∃ F', Fz.le lY F' ∧ HS (Base.of H []) F' H' [iz, iv, [], [], [], h7, [], hz, hB] R) ?_ ?_
  ·
   refine ab ?_
   refine wm (.bool (bD z [3, 2] fj (A.take (z.getD fj.toNat default).params.toNat) (aB fuel 12) (100 : Int)).isSome) rfl rfl rfl ?_
   refine bY (v := (.bool (!(bD z [3, 2] fj (A.take (z.getD fj.toNat default).params.toNat) (aB fuel 12) (100 : Int)).isSome))) (ap_not rfl) rfl rfl ?_
   refine wm (.bool (!(bD z [3, 2] fj (A.take (z.getD fj.toNat default).params.toNat) (aB fuel 12) (100 : Int)).isSome)) rfl rfl rfl ?_
   refine wo_gsF (v := (!(bD z [3, 2] fj (A.take (z.getD fj.toNat default).params.toNat) (aB fuel 12) (100 : Int)).isSome)) rfl rfl (fun V => ?_) (fun V => ?_)
   ·
    have e6 := V
    try simp only [BS] at e6
    refine wm (.bool (bD ql [3, 2] fj (A.take (z.getD fj.toNat default).params.toNat) (aB fuel 12) (300 : Int)).isSome) rfl rfl rfl ?_
    refine gw rfl V ?_
    refine wm (.bool (bD ql [3, 2] fj (A.take (z.getD fj.toNat default).params.toNat) (aB fuel 12) (300 : Int)).isSome) rfl rfl rfl ?_
    refine wo_gsT (v := (bD ql [3, 2] fj (A.take (z.getD fj.toNat default).params.toNat) (aB fuel 12) (300 : Int)).isSome) rfl rfl (fun av => ?_) (fun av => ?_)
    ·
     have e9 := av
     try simp only [BS] at e9
     refine bY (v := hv) (j0 (i := 0) rfl rfl rfl (HS.hc ar (i := 7) rfl) rfl rfl rfl) rfl rfl ?_
     refine gw rfl av ?_
     refine bY (v := hA) (j0 (i := 0) rfl rfl rfl (HS.hc ar (i := 8) rfl) rfl rfl rfl) rfl rfl ?_
     refine gw rfl av ?_
     refine aD (az rfl rfl rfl) rfl rfl (it.same_c 15 (⟨(oV (bD z [3, 2] fj (A.take (z.getD fj.toNat default).params.toNat) (aB fuel 12) (100 : Int))).kind, (oV (bD z [3, 2] fj (A.take (z.getD fj.toNat default).params.toNat) (aB fuel 12) (100 : Int))).code, (oV (bD z [3, 2] fj (A.take (z.getD fj.toNat default).params.toNat) (aB fuel 12) (100 : Int))).out, (oV (bD z [3, 2] fj (A.take (z.getD fj.toNat default).params.toNat) (aB fuel 12) (100 : Int))).val⟩ : OutT) (⟨(oV (bD ql [3, 2] fj (A.take (z.getD fj.toNat default).params.toNat) (aB fuel 12) (300 : Int))).kind, (oV (bD ql [3, 2] fj (A.take (z.getD fj.toNat default).params.toNat) (aB fuel 12) (300 : Int))).code, (oV (bD ql [3, 2] fj (A.take (z.getD fj.toNat default).params.toNat) (aB fuel 12) (300 : Int))).out, (oV (bD ql [3, 2] fj (A.take (z.getD fj.toNat default).params.toNat) (aB fuel 12) (300 : Int))).val⟩ : OutT) (HS.call ar) (by omega) (by omega) ci (by omega) (by omega) (by omega) f4 (by omega) hT (by (dsimp only; omega))) ?_
     rintro _ me ⟨nU, ns, ev, b4, rfl, rfl⟩
     replace b4 := HS.back ar rfl b4
     have b4 : HS _ _ _ [_, _, _, _, _, _, _, _, _] _ := b4
     replace hT := hT.mono ev
     refine gw rfl V ?_
     refine bY (v := (.bool (decide ((oV (bD z [3, 2] fj (A.take (z.getD fj.toNat default).params.toNat) (aB fuel 12) (100 : Int))) = (oV (bD ql [3, 2] fj (A.take (z.getD fj.toNat default).params.toNat) (aB fuel 12) (300 : Int))))))) (eV rfl av rfl) rfl rfl ?_
     refine bY (v := (.bool (decide ((oV (bD z [3, 2] fj (A.take (z.getD fj.toNat default).params.toNat) (aB fuel 12) (100 : Int))) = (oV (bD ql [3, 2] fj (A.take (z.getD fj.toNat default).params.toNat) (aB fuel 12) (300 : Int))))))) (eW rfl V rfl) rfl rfl ?_
     refine wm (.bool (decide ((oV (bD z [3, 2] fj (A.take (z.getD fj.toNat default).params.toNat) (aB fuel 12) (100 : Int))) = (oV (bD ql [3, 2] fj (A.take (z.getD fj.toNat default).params.toNat) (aB fuel 12) (300 : Int)))))) rfl rfl rfl ?_
     refine wo_gsT (v := (decide ((oV (bD z [3, 2] fj (A.take (z.getD fj.toNat default).params.toNat) (aB fuel 12) (100 : Int))) = (oV (bD ql [3, 2] fj (A.take (z.getD fj.toNat default).params.toNat) (aB fuel 12) (300 : Int)))))) rfl rfl (fun c0 => ?_) (fun c0 => ?_)
     ·
      have fd := c0
      try simp only [BS] at fd
      refine aD (az rfl rfl rfl) rfl rfl (ex_c 15 (HS.call b4) hT) ?_
      rintro _ me ⟨nV, rfl, rfl, rfl⟩
      refine bY (v := (.bool true)) (eV rfl c0 rfl) rfl rfl ?_
      refine wa (.bool true) rfl rfl rfl ?_
      refine gv ?_
      exact aE ⟨rfl, ⟨_, (fT fR ev), HS.sub b4 (List.Sublist.refl _)⟩, (Lu rfl (Lu rfl (Lu rfl (Lu rfl (Lu rfl (Lu rfl (Lu rfl (Lu rfl (Lu rfl (Lu rfl (Lu rfl (Lu rfl (Lu rfl (Lu rfl Lr)))))))))))))), (agC (congrArg Value.bool (show true = ((!(bD z [3, 2] fj (A.take (z.getD fj.toNat default).params.toNat) (aB fuel 12) (100 : Int)).isSome) || ((bD ql [3, 2] fj (A.take (z.getD fj.toNat default).params.toNat) (aB fuel 12) (300 : Int)).isSome && decide ((oV (bD z [3, 2] fj (A.take (z.getD fj.toNat default).params.toNat) (aB fuel 12) (100 : Int))) = (oV (bD ql [3, 2] fj (A.take (z.getD fj.toNat default).params.toNat) (aB fuel 12) (300 : Int)))))) by simp only [↓V, ↓av, ↓c0, BT])) agN)⟩
     ·
      have fd := c0
      try simp only [BS] at fd
      refine bY (v := (.bool false)) (eW rfl c0 rfl) rfl rfl ?_
      refine wa (.bool false) rfl rfl rfl ?_
      refine gv ?_
      exact aE ⟨rfl, ⟨_, (fT fR ev), HS.sub b4 (List.Sublist.refl _)⟩, (Lu rfl (Lu rfl (Lu rfl (Lu rfl (Lu rfl (Lu rfl (Lu rfl (Lu rfl (Lu rfl (Lu rfl (Lu rfl (Lu rfl (Lu rfl (Lu rfl Lr)))))))))))))), (agC (congrArg Value.bool (show false = ((!(bD z [3, 2] fj (A.take (z.getD fj.toNat default).params.toNat) (aB fuel 12) (100 : Int)).isSome) || ((bD ql [3, 2] fj (A.take (z.getD fj.toNat default).params.toNat) (aB fuel 12) (300 : Int)).isSome && decide ((oV (bD z [3, 2] fj (A.take (z.getD fj.toNat default).params.toNat) (aB fuel 12) (100 : Int))) = (oV (bD ql [3, 2] fj (A.take (z.getD fj.toNat default).params.toNat) (aB fuel 12) (300 : Int)))))) by simp only [↓V, ↓av, ↓c0, BT])) agN)⟩
    ·
     have e9 := av
     try simp only [BS] at e9
     refine wo_gf1 rfl av rfl ?_
     refine wo_gf1 rfl av rfl ?_
     refine gw rfl V ?_
     refine bY (v := (.bool false)) (eW rfl av rfl) rfl rfl ?_
     refine bY (v := (.bool false)) (eW rfl V rfl) rfl rfl ?_
     refine wm (.bool false) rfl rfl rfl ?_
     refine wo_gf1 rfl rfl rfl ?_
     refine bY (v := (.bool false)) (eW rfl rfl rfl) rfl rfl ?_
     refine wa (.bool false) rfl rfl rfl ?_
     refine gv ?_
     exact aE ⟨rfl, ⟨_, fR, HS.sub ar (List.Sublist.refl _)⟩, (Lu rfl (Lu rfl (Lu rfl (Lu rfl (Lu rfl (Lu rfl (Lu rfl (Lu rfl (Lu rfl (Lu rfl (Lu rfl (Lu rfl (Lu rfl (Lu rfl Lr)))))))))))))), (agC (congrArg Value.bool (show false = ((!(bD z [3, 2] fj (A.take (z.getD fj.toNat default).params.toNat) (aB fuel 12) (100 : Int)).isSome) || ((bD ql [3, 2] fj (A.take (z.getD fj.toNat default).params.toNat) (aB fuel 12) (300 : Int)).isSome && decide ((oV (bD z [3, 2] fj (A.take (z.getD fj.toNat default).params.toNat) (aB fuel 12) (100 : Int))) = (oV (bD ql [3, 2] fj (A.take (z.getD fj.toNat default).params.toNat) (aB fuel 12) (300 : Int)))))) by simp only [↓V, ↓av, BT])) agN)⟩
   ·
    have e6 := V
    try simp only [BS] at e6
    refine fO rfl V rfl ?_
    refine wo_gn rfl rfl ?_
    refine wo_gn rfl rfl ?_
    refine wo_gn rfl rfl ?_
    refine fO rfl V rfl ?_
    refine bY (v := (.bool true)) (eV rfl V rfl) rfl rfl ?_
    refine wm (.bool true) rfl rfl rfl ?_
    refine gw rfl rfl ?_
    refine aD (az rfl rfl rfl) rfl rfl (ex_c 15 (HS.call ar) hT) ?_
    rintro _ l9 ⟨nW, rfl, rfl, rfl⟩
    refine bY (v := (.bool true)) (eV rfl rfl rfl) rfl rfl ?_
    refine wa (.bool true) rfl rfl rfl ?_
    refine gv ?_
    exact aE ⟨rfl, ⟨_, fR, HS.sub ar (List.Sublist.refl _)⟩, (Lu rfl (Lu rfl (Lu rfl (Lu rfl (Lu rfl (Lu rfl (Lu rfl (Lu rfl (Lu rfl (Lu rfl (Lu rfl (Lu rfl (Lu rfl (Lu rfl Lr)))))))))))))), (agC (congrArg Value.bool (show true = ((!(bD z [3, 2] fj (A.take (z.getD fj.toNat default).params.toNat) (aB fuel 12) (100 : Int)).isSome) || ((bD ql [3, 2] fj (A.take (z.getD fj.toNat default).params.toNat) (aB fuel 12) (300 : Int)).isSome && decide ((oV (bD z [3, 2] fj (A.take (z.getD fj.toNat default).params.toNat) (aB fuel 12) (100 : Int))) = (oV (bD ql [3, 2] fj (A.take (z.getD fj.toNat default).params.toNat) (aB fuel 12) (300 : Int)))))) by simp only [↓V, BT])) agN)⟩
  ·
   rintro nJ nD ⟨nr, j2, kz⟩
   refine ao 1 rfl ?_
   refine ah ⟨.inr rfl, _, rfl, ((!(bD z [3, 2] fj (A.take (z.getD fj.toNat default).params.toNat) (aB fuel 12) (100 : Int)).isSome) || ((bD ql [3, 2] fj (A.take (z.getD fj.toNat default).params.toNat) (aB fuel 12) (300 : Int)).isSome && decide ((oV (bD z [3, 2] fj (A.take (z.getD fj.toNat default).params.toNat) (aB fuel 12) (100 : Int))) = (oV (bD ql [3, 2] fj (A.take (z.getD fj.toNat default).params.toNat) (aB fuel 12) (300 : Int)))))), _, (fT (fT (fT (fT (fT (fT (fT (fT (fT (g5) b7) a9) bb) bl) b0) b1) b2) et) j2), (HS.forget kz), rfl, (by exact dead_fin hql (by omega) ⟨by omega, by omega⟩ rfl (by omega) (show aj.toNat ≤ ((z.getD fj.toNat default).blocks.getD bj.toNat default).ins.length by omega) (by omega) (hpt.pt aj.toNat (show aj.toNat ≤ ((z.getD fj.toNat default).blocks.getD bj.toNat default).ins.length by omega)) (by assumption))⟩
end Go.Proofs.YtlabedbmgmfbaaaDoor.ld
