/-
 Plain laws: what the functions compute answers as the statement says. No condition beyond those that each statement names.
-/
import Derived.Test.YtlabedbmgmfbaaaDoorZUID
noncomputable section
namespace Go.Proofs.YtlabedbmgmfbaaaDoor.iu
open Go.R m1 m2 m7 iw ia ib id_
set_option linter.unusedVariables false
def trapB : BlkT := ⟨[], 4, 0, 77, 0⟩
def upF (d : Int) (c : VFnT) : VFnT := ⟨c.params, c.regs + d, c.blocks ++ [trapB]⟩
def upC (d : Int) (c : CalT) : CalT := { c with code := upF d c.code }
def upS (d : Int) (s : RunS) : RunS := { s with low := s.low.map (upC d), top := upC d s.top }
section
variable {P : List VFnT} {lens : List Int} {nc N : Nat} {d : Int} {s : RunS}
theorem fV {α β : Type} [Inhabited α] [Inhabited β] (g : α → β) {l : List α} {k : Nat} (h : k < l.length) : (l.map g).getD k default = g (l.getD k default) := by
 rw [List.getD_eq_getElem?_getD, List.getD_eq_getElem?_getD, List.getElem?_map, List.getElem?_eq_getElem h]; rfl
theorem getD_left {α : Type} [Inhabited α] {l m : List α} {k : Nat} (h : k < l.length) : (l ++ m).getD k default = l.getD k default := by
 rw [List.getD_eq_getElem?_getD, List.getD_eq_getElem?_getD, List.getElem?_append_left h]
theorem up_blk {c : CalT} (h : CalOK P c) : el (upC d c) = el c := by
 have := h.blk
 exact getD_left (l := c.code.blocks) (k := c.blk.toNat) (by omega)
theorem up_cmp {i : InsT} : fb (upS d s) i = upS d (fb s i) := by
 unfold fb; simp only [apply_ite (upS d)]; rfl
theorem up_acc {i : InsT} : fe (upS d s) i = upS d (fe s i) := by
 unfold fe; simp only [apply_ite (upS d)]; rfl
theorem map_last {l : List CalT} (h : l ≠ []) : (l.map (upC d)).getLastD default = upC d (l.getLastD default) := by
 have e := last_eq h
 generalize l.dropLast = a at e
 generalize l.getLastD default = b at e ⊢
 subst e
 rw [List.map_append, List.map_cons, List.map_nil]; simp
theorem up_back {x : Int} : cu (upS d s) x = upS d (cu s x) := by
 unfold cu
 by_cases h : s.low = []
 ·
  have z : (upS d s).low = [] := by show s.low.map (upC d) = []; rw [h]; rfl
  rw [if_pos h, if_pos z]; rfl
 ·
  have z : (upS d s).low ≠ [] := fun e => h (List.map_eq_nil_iff.1 e)
  have A : (upS d s).low.getLastD default = upC d (s.low.getLastD default) := map_last h
  have E : (upS d s).low.dropLast = s.low.dropLast.map (upC d) := List.map_dropLast.symm
  rw [if_neg h, if_neg z, A, E]; rfl
theorem up_term {b : BlkT} : cr (upS d s) b = upS d (cr s b) := by
 unfold cr
 split
 ·
  rfl
 ·
  split
  ·
   rfl
  ·
   split
   ·
    exact up_back
   ·
    rfl
theorem up_exe {v : VInT} (h : v.i.op = 6 → 0 ≤ v.i.n ∧ v.i.n < (P.length : Int)) : fD (P.map (upF d)) (upS d s) v = upS d (fD P s v) := by
 unfold fD
 split
 ·
  simp only [apply_ite (upS d)]; rfl
 ·
  split
  ·
   rename_i z
   have := h z
   rw [fV (upF d) (l := P) (by omega)]
   show (⟨_, _, _, _, _, _, _, _, _⟩ : RunS) = ⟨List.map _ (_ ++ [_]), _, _, _, _, _, _, _, _⟩
   rw [List.map_append]; rfl
  ·
   split
   ·
    rfl
   ·
    split
    ·
     exact up_acc
    ·
     exact up_cmp
theorem up_step (hp : PrF P nc) (h : RunOK P nc s N) : bD (P.map (upF d)) (upS d s) = upS d (bD P s) := by
 have eb : el (upS d s).top = el s.top := up_blk h.top
 have ei : e9 (upS d s).top = e9 s.top := by
  show (el (upS d s).top).ins.getD _ _ = _
  rw [eb]; rfl
 unfold bD
 rw [ei, show (el (upS d s).top).ins = (el s.top).ins by rw [eb]]
 by_cases hat : s.top.at_ = ((el s.top).ins.length : Int)
 ·
  rw [if_pos hat, if_pos (show (upS d s).top.at_ = _ from hat), eb]; exact up_term
 ·
  rw [if_neg hat, if_neg (show ¬ (upS d s).top.at_ = _ from hat)]
  have hi := h.top.inF hp hat
  exact up_exe (s := b8 s) fun e => ⟨(hi.call e).1, (hi.call e).2.1⟩
theorem up_it {f : Int} {args : List Int} {fuel : Int} (h : okR P lens f args fuel) : ∀ k, itV (P.map (upF d)) k (upS d (iniV P lens f args fuel)) = upS d (itV P k (iniV P lens f args fuel))
 | 0 => rfl
 | k + 1 => by
  show (if _ then _ else _) = upS d (if _ then _ else _)
  rw [up_it h k]
  by_cases ho : (itV P k (iniV P lens f args fuel)).over = true
  ·
   rw [if_pos ho, if_pos (show (upS d _).over = true from ho)]
  ·
   rw [if_neg ho, if_neg (show ¬ (upS d _).over = true from ho)]
   exact up_step (jf h.1) (it_ok h k)
theorem up_reg {r n : Int} (hd : 0 ≤ d) (h : aE r n = true) : aE (r + d) n = true := bg.2 (by have := bg.1 h; omega)
theorem up_op {b : Bool} {r n : Int} (hd : 0 ≤ d) (h : iC b n r = true) : iC b n (r + d) = true := by
 rcases gU.1 h with ⟨e, z, A⟩ | h
 ·
  exact gU.2 (.inl ⟨e, z, by omega⟩)
 ·
  exact gU.2 (.inr h)
theorem up_vin {params r : Int} {v : VInT} (hd : 0 ≤ d) (h : fg params r v = true) : fg params (r + d) v = true := by
 unfold fg at h ⊢
 simp only [Bool.and_eq_true] at h ⊢
 obtain ⟨⟨⟨⟨⟨⟨⟨z, A⟩, E⟩, I⟩, J⟩, O⟩, T⟩, U⟩ := h
 exact ⟨⟨⟨⟨⟨⟨⟨z, A⟩, E⟩, List.all_eq_true.2 fun x hx => up_reg hd (List.all_eq_true.1 I x hx)⟩, up_op hd J⟩, up_op hd O⟩, up_op hd T⟩, U⟩
theorem up_val {c : VFnT} (hd : 0 ≤ d ∧ d ≤ 9) (hr : c.regs ≤ 2000 ∧ c.blocks.length ≤ 900) (h : ey c = true) : ey (upF d c) = true := by
 unfold ey at h ⊢
 rw [Bool.and_eq_true] at h ⊢
 have z := of_decide_eq_true h.1
 have hl : (upF d c).blocks.length = c.blocks.length + 1 := by show (_ ++ [_]).length = _; simp
 refine ⟨decide_eq_true (by rw [hl]; show 0 ≤ c.params ∧ c.params ≤ 6 ∧ 0 ≤ c.regs + d ∧ c.regs + d ≤ 3000 ∧ 1 ≤ c.blocks.length + 1 ∧ c.blocks.length + 1 ≤ 1000; omega), List.all_eq_true.2 fun b hb => ?_⟩
 rw [hl]
 rcases List.mem_append.1 hb with hb | hb
 ·
  have := List.all_eq_true.1 h.2 b hb
  unfold j0 at this ⊢
  rw [Bool.and_eq_true] at this ⊢
  refine ⟨List.all_eq_true.2 fun v hv => up_vin hd.1 (List.all_eq_true.1 this.1 v hv), ?_⟩
  rw [cj] at *
  have A := this.2
  show _ ∨ _
  simp only [upF] at *
  omega
 ·
  rw [List.mem_singleton] at hb; subst hb
  unfold j0
  rw [Bool.and_eq_true]
  exact ⟨rfl, cj.2 (.inr (.inr (.inr ⟨rfl, by decide, by decide, rfl, rfl⟩)))⟩
theorem up_vp (hd : 0 ≤ d ∧ d ≤ 9) (hr : ∀ c ∈ P, c.regs ≤ 2000 ∧ c.blocks.length ≤ 900) (h : vpV P lens = true) : vpV (P.map (upF d)) lens = true := by
 have hpf := jf h
 unfold vpV at h ⊢
 rw [Bool.and_eq_true, Bool.and_eq_true] at h ⊢
 have z := of_decide_eq_true h.1.1
 refine ⟨⟨decide_eq_true (by rw [List.length_map]; exact z), h.1.2⟩, List.all_eq_true.2 fun x hx => ?_⟩
 obtain ⟨c, hc, rfl⟩ := List.mem_map.1 hx
 have hF := List.all_eq_true.1 h.2 c hc
 unfold vpF at hF
 rw [Bool.and_eq_true] at hF
 refine vpF_yes (up_val hd (hr c hc) hF.1) (List.all_eq_true.2 fun b hb => ?_)
 unfold vpB
 rcases List.mem_append.1 hb with hb | hb
 ·
  have := List.all_eq_true.1 hF.2 b hb
  unfold vpB at this
  refine List.all_eq_true.2 fun v hv => ea.2 ?_
  have hv := ea.1 (List.all_eq_true.1 this v hv)
  rw [List.length_map]
  refine ⟨fun e => ⟨(hv.1 e).1, ?_⟩, hv.2⟩
  have := (hv.1 e).1
  rw [fV (upF d) (l := P) (by omega)]
  exact (hv.1 e).2
 ·
  rw [List.mem_singleton] at hb; subst hb; rfl
theorem up_ini {f : Int} {args : List Int} {fuel : Int} (h : 0 ≤ f ∧ f < (P.length : Int)) : iniV (P.map (upF d)) lens f args fuel = upS d (iniV P lens f args fuel) := by
 unfold iniV
 rw [fV (upF d) (l := P) (by omega)]; rfl
theorem up_run {f : Int} {args : List Int} {fuel most : Int} (hd : 0 ≤ d ∧ d ≤ 9) (hr : ∀ c ∈ P, c.regs ≤ 2000 ∧ c.blocks.length ≤ 900) (hv : vpV P lens = true) (hf : 0 ≤ f ∧ f < (P.length : Int)) : aQ (P.map (upF d)) lens f args fuel most = (aQ P lens f args fuel most).map (upS d) := by
 have z := up_vp hd hr hv
 have hok : okR (P.map (upF d)) lens f args fuel ↔ okR P lens f args fuel := by
  unfold okR
  rw [List.length_map, fV (upF d) (l := P) (by omega)]
  exact ⟨fun h => ⟨hv, h.2⟩, fun h => ⟨z, h.2⟩⟩
 unfold aQ
 by_cases h : okR P lens f args fuel
 ·
  have e := up_it (d := d) h most.toNat
  rw [up_ini hf, e]
  by_cases ho : (itV P most.toNat (iniV P lens f args fuel)).over = true
  ·
   rw [if_pos ⟨hok.2 h, ho⟩, if_pos ⟨h, ho⟩]; rfl
  ·
   rw [if_neg (fun hh => ho hh.2), if_neg (fun hh => ho hh.2)]; rfl
 ·
  rw [if_neg (fun hh => h (hok.1 hh.1)), if_neg (fun hh => h hh.1)]; rfl
end
end Go.Proofs.YtlabedbmgmfbaaaDoor.iu
