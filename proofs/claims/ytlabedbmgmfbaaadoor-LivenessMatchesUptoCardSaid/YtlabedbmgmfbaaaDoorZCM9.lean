/-
 The generator that changes one detail of a function: what it makes is some function of bounded size. No condition but bounds on lengths.
-/
import Derived.Test.YtlabedbmgmfbaaaDoorZCM6
import Derived.Test.YtlabedbmgmfbaaaDoorZCRD
noncomputable section
namespace Go.Proofs.YtlabedbmgmfbaaaDoor.m9
open Go.R
set_option maxRecDepth 10000
set_option linter.unusedVariables false
open m1 m2 m3 m4 m5 m6
structure BlkH where
 h : Hd
 fin : Int
 reg : Int
 tgt : Int
 els : Int
 deriving Inhabited
instance : Rp BlkH where
 sz := 5
 rep F cs x := cs = [.slice x.h.a x.h.n x.h.k, .int .i64 x.fin, .int .i64 x.reg, .int .i64 x.tgt, .int .i64 x.els] ∧ in64 x.fin ∧ in64 x.reg ∧ in64 x.tgt ∧ in64 x.els
 len := by rintro F cs x ⟨rfl, _⟩; rfl
 one := by rintro F cs x ⟨rfl, _⟩; rfl
 mono := by intro F F' cs x _ h; exact h
theorem BlkH.vw {F : Fz} {get : Nat → Option AObj} {v : Value} {cf : Nat → List Value} {j : Nat} {l : List BlkH} (h : VW F get v l cf j) (hj : j < l.length) : HC get (sB v) (sO v + j * Rp.sz BlkH) [.slice (l.getD j default).h.a (l.getD j default).h.n (l.getD j default).h.k, .int .i64 (l.getD j default).fin, .int .i64 (l.getD j default).reg, .int .i64 (l.getD j default).tgt, .int .i64 (l.getD j default).els] := by
 obtain ⟨⟨A, _⟩, z⟩ := h.1 default hj
 rw [show cf j = _ from A] at z; exact z
theorem BlkH.fx {F : Fz} {get : Nat → Option AObj} {v : Value} {cf : Nat → List Value} {j : Nat} {l : List BlkH} (h : VW F get v l cf j) : in64 (l.getD j default).fin ∧ in64 (l.getD j default).reg ∧ in64 (l.getD j default).tgt ∧ in64 (l.getD j default).els := by
 rcases Nat.lt_or_ge j l.length with hj | hj
 ·
  obtain ⟨⟨J, h0, z, A, E⟩, _⟩ := h.1 default hj
  exact ⟨h0, z, A, E⟩
 ·
  rw [cm hj]; exact ⟨by decide, by decide, by decide, by decide⟩
instance : HasHd BlkH := ⟨fun h => h.h⟩
def blkZ (hs : List BlkH) (ls : List (List VInT)) : List BlkT := List.zipWith (fun h l => ⟨l, h.fin, h.reg, h.tgt, h.els⟩) hs ls
theorem blkH_rows {F : Fz} {v : Value} {hs : List BlkH} {ls : List (List VInT)} (h : SR F v hs) (hl : hs.length ≤ ls.length) (k : ∀ i, i < ls.length → SR F (HasHd.hd (hs.getD i default)).v (ls.getD i [])) : SR F v (blkZ hs ls) := by
 refine SR.conv (α := BlkH) (β := BlkT) rfl h (by unfold blkZ; rw [List.length_zipWith]; omega) F.le_refl fun i x y hx hy c hc => ?_
 have hi := (List.getElem?_eq_some_iff.1 hx).1
 have k1 := k i (by omega)
 have z : hs.getD i default = x := by rw [List.getD_eq_getElem?_getD, hx]; rfl
 have A : ls[i]? = some (ls.getD i []) := aS (by omega)
 rw [z] at k1
 have hn := SR.n (h := x.h) k1
 unfold blkZ at hy
 rw [List.getElem?_zipWith, hx, A] at hy
 obtain rfl := (Option.some.inj hy)
 obtain ⟨rfl, E, J, N, T⟩ := hc
 exact ⟨x.h.a, x.h.k, by rw [← hn], E, J, N, T, by rw [← hn]; exact k1⟩
def okI (m : Nat) (y : List VInT) : Prop := y.length ≤ 1000 ∧ ∀ z ∈ y, z.args.length ≤ m
theorem ok_snoc {m : Nat} {l : List (List VInT)} {x : List VInT} (h : ∀ y ∈ l, okI m y) (hx : okI m x) : ∀ y ∈ l ++ [x], okI m y := fun y hy => by
 rcases List.mem_append.1 hy with hy | hy
 ·
  exact h y hy
 ·
  rw [List.mem_singleton] at hy; rw [hy]; exact hx
theorem aC {m i : Nat} {l : List (List VInT)} (h : ∀ y ∈ l, okI m y) : okI m (l.getD i default) := by
 rw [List.getD_eq_getElem?_getD]
 rcases hi : l[i]? with _ | y
 ·
  exact ⟨Nat.zero_le _, fun z hz => by cases hz⟩
 ·
  exact h y (List.mem_of_getElem? hi)
theorem aQ {m i : Nat} {y : List VInT} (h : okI m y) : (y.getD i default).args.length ≤ m := by
 rw [List.getD_eq_getElem?_getD]
 rcases hi : y[i]? with _ | z
 ·
  exact Nat.zero_le _
 ·
  exact h.2 z (List.mem_of_getElem? hi)
theorem da {m : Nat} {l : List (List VInT)} (h : ∀ y ∈ l, okI m y) : ∀ y ∈ l, okI (m + 1) y := fun y hy => ⟨(h y hy).1, fun z hz => Nat.le_succ_of_le ((h y hy).2 z hz)⟩
theorem aR {m ii i : Nat} {l : List (List VInT)} {z : VInT} (h : ∀ y ∈ l, okI m y) (hz : z.args.length ≤ m + 1) : ∀ y ∈ l.set ii ((l.getD ii default).set i z), okI (m + 1) y := fun y hy => by
 rcases List.mem_or_eq_of_mem_set hy with hy | hy
 ·
  exact da h y hy
 ·
  subst hy
  have A := aC (i := ii) h
  refine ⟨by rw [List.length_set]; exact A.1, fun w hw => ?_⟩
  rcases List.mem_or_eq_of_mem_set hw with hw | hw
  ·
   exact Nat.le_succ_of_le (A.2 w hw)
  ·
   subst hw; exact hz
theorem bn {m : Nat} {l : List Int} {n : Int} (h : l.length ≤ m) : (l ++ ([n] : List Int)).length ≤ m + 1 := by simp; omega
theorem blkZ_ok {m : Nat} {hs : List BlkH} {ls : List (List VInT)} (h : ∀ y ∈ ls, okI m y) (j : Nat) : okI m ((blkZ hs ls).getD j default).ins := by
 unfold blkZ
 rw [List.getD_eq_getElem?_getD, List.getElem?_zipWith]
 cases hs[j]? with
 | none => exact ⟨Nat.zero_le _, fun z hz => by cases hz⟩
 | some x =>
  cases hl : ls[j]? with
  | none => exact ⟨Nat.zero_le _, fun z hz => by cases hz⟩
  | some y => exact h y (List.mem_of_getElem? hl)
theorem blkZ_len {hs : List BlkH} {ls : List (List VInT)} : (blkZ hs ls).length ≤ hs.length := by unfold blkZ; rw [List.length_zipWith]; omega
set_option maxHeartbeats 2000000 in
theorem mut_c (ex : FuncId) {f6 : Option Addr} {g2 : Nat} (c : VFnT) (how : Int) (at_ : Int) {F : Fz} {H : Heap} {R : List Fp} (hs : HS (.of H []) F H [] R) (q6 : in64 c.params) (q7 : in64 c.regs) (g9 : SR F (.slice f6 c.blocks.length g2) c.blocks) (hhow : in64 how) (hat_ : in64 at_) (hT : TB 37 tabC F) (hb : 1 ≤ c.blocks.length ∧ c.blocks.length ≤ 1000) (hi : ∀ j, okI 7 (c.blocks.getD j default).ins) : C Tryd.prog 1 (KT 60 ex 37 tabC) 18 [(.agg ⟨[(iI c.params), (iI c.regs), (.slice f6 c.blocks.length g2)]⟩), (iI how), (iI at_)] H fun v H' => ∃ (x : VFnT) (mQ : Option Addr) (nC : Nat) (F' : Fz), Fz.le F F' ∧ HS (.of H []) F' H' [] R ∧ v = .agg ⟨[.int .i64 x.params, .int .i64 x.regs, .slice mQ x.blocks.length nC]⟩ ∧ in64 x.params ∧ in64 x.regs ∧ SR F' (.slice mQ x.blocks.length nC) x.blocks ∧ (x.blocks.length ≤ 1000) ∧ (∀ m, (∀ j, okI m (c.blocks.getD j default).ins) → ∀ j, okI (m + 1) (x.blocks.getD j default).ins) := by
 refine aG Tryd.func18 rfl rfl ?_
 refine aj 1 rfl ?_
 refine aa ?_
 refine aF (bB hs rfl rfl) rfl rfl ?_
 rintro _ H2 _ ⟨b1, rfl, nv, _⟩
 let g5 : Fp := [(b1, .cells [(iI c.params), (iI c.regs), (.slice f6 c.blocks.length g2)] none false)]
 have nv : HS _ _ _ [g5] _ := nv
 refine aF (bE nv rfl) rfl rfl ?_
 rintro _ H4 _ ⟨b3, rfl, nw, _⟩
 let g6 : Fp := [(b3, .cells [(iI 0), (iI 0), (.slice none 0 0)] none false)]
 have nw : HS _ _ _ [_, g6] _ := nw
 refine ae 2 rfl ?_
 refine aa ?_
 refine wRo 2 0 [] 15 16 [] [(16, (.agg ⟨[(iI how)]⟩))] trivial rfl fun _ => ?_
 refine aF (bB nw rfl rfl) rfl rfl ?_
 rintro _ H7 _ ⟨b6, rfl, i1, _⟩
 have i1 : HS _ _ _ [_, _, [(b6, .cells [(iI how)] none false)]] _ := i1
 refine wa (.pointer (some ⟨b6, 0, none⟩)) rfl rfl rfl ?_
 refine ae 2 rfl ?_
 refine aa ?_
 refine wRo 5 0 [(1, .o (iI c.params)), (3, .o (iI c.regs))] 18 22 [] [(22, (.agg ⟨[(iI c.params), (iI c.regs), (.slice none 0 0)]⟩))] (vA (ql 3 0 (HS.hc i1 (i := 0) rfl) rfl rfl) (vA (ql 3 1 (HS.hc i1 (i := 0) rfl) rfl rfl) trivial)) rfl fun _ => ?_
 refine aF (bE i1 rfl) rfl rfl ?_
 rintro _ rk _ ⟨b9, rfl, k9, _⟩
 have k9 : HS _ _ _ [_, _, _, [(b9, .cells [(iI 0), (iI 0), (.slice none 0 0)] none false)]] _ := k9
 refine aM (aD (q := 3) k9 rfl rfl rfl rfl rfl rfl rfl rfl rfl) rfl ?_
 rintro _ rl _ ⟨la, _⟩
 have la : HS _ _ _ [_, _, _, [(b9, .cells [(iI c.params), (iI c.regs), (.slice none 0 0)] none false)]] _ := la
 refine ae 3 rfl ?_
 refine wR 2 [] 1 0 [9] [(9, (iI 0))] trivial rfl fun _ => ?_
 have lr := HS.snoc la
 have lr : HS _ _ _ [_, _, _, _, []] _ := lr
 have lA := HS.snoc lr
 have lA : HS _ _ _ [_, _, _, _, _, []] _ := lA
 have nk : SF F ([] : List BlkH) ([] : List (List VInT)) [] := rfl
 have qX := FAM.len nk
 refine ap (fun (mm : Nat) f H' => ∃ (hv : List BlkH) (lv : List (List VInT)) (b : Nat) (T : Fp) (z : Option Addr) (A : Nat) (dv : Fp) (F' : Fz), Fz.le F F' ∧ HS (Base.of H []) F' H' [g5, g6, [(b6, .cells [(iI how)] none false)], [(b9, .cells [(iI c.params), (iI c.regs), (.slice z hv.length A)] none false)], T, dv] R ∧ OS F' (.slice z hv.length A) hv T ∧ SF F' hv lv dv ∧ aI f [(2, (iI at_)), (3, (.pointer (some ⟨b1, 0, none⟩))), (6, (.pointer (some ⟨b3, 0, none⟩))), (7, (.pointer (some ⟨b6, 0, none⟩))), (8, (.pointer (some ⟨b9, 0, none⟩))), (9, (iI (b : Int)))] ∧ mm = c.blocks.length - b ∧ (hv.length = b) ∧ (∀ y ∈ lv, okI 7 y) ∧ (b ≤ c.blocks.length) ∧ (∀ m, (∀ j, okI m (c.blocks.getD j default).ins) → ∀ y ∈ lv, okI m y)) _ ⟨([] : List BlkH), ([] : List (List VInT)), 0, [], none, 0, [], _, fR, lA, (OS.nil : OS F (.slice none 0 0) ([] : List BlkH) []), nk, (agC rfl (agC rfl (agC rfl (agC rfl (agC rfl (agC rfl agN)))))), rfl, (by rfl), (by simp), (by first | assumption | omega | (simp at *; omega)), (by simp)⟩ ?_
 rintro rg rJ ov ⟨hv, lv, b, T, z, A, dv, lR, f7, b2, E, g3, nl, rfl, e1, e2, e3, J⟩ oU
 refine au _ nl (fun _ => ?_)
 clear nl
 replace hT := hT.mono f7
 replace g9 := g9.mono f7
 have o8 := FAM.len g3
 have hib := (hi b).1
 refine aj 2 rfl ?_
 refine wR 1 [(2, .o (.slice f6 c.blocks.length g2))] 23 27 [] [(27, (.bool (decide ((b : Int) < (c.blocks.length : Int)))))] (vA (ql 22 2 (HS.hc b2 (i := 0) rfl) rfl rfl) trivial) rfl fun _ => ?_
 refine ak 4 5 (v := (decide ((b : Int) < (c.blocks.length : Int)))) rfl rfl rfl rfl (fun mW => ?_) (fun mW => ?_)
 ·
  try simp only [BS] at mW
  refine aa ?_
  obtain ⟨b7, ny⟩ := Sv.view (SR.sv g9 b2)
  obtain ⟨pK, pL, pM, pN, ou⟩ := BlkT.fx (ny b)
  let oE : Value := (.agg ⟨[(.slice (cA (b7 b) 0) (c.blocks.getD b default).ins.length (cK (b7 b) 0)), (iI (c.blocks.getD b default).fin), (iI (c.blocks.getD b default).reg), (iI (c.blocks.getD b default).tgt), (iI (c.blocks.getD b default).els)]⟩)
  refine wRo 5 0 [(1, .o (.slice f6 c.blocks.length g2)), (4, .o oE)] 30 34 [] [(34, oE)] (vA (ql 22 2 (HS.hc b2 (i := 0) rfl) rfl rfl) (vA (Sv.ix (j := (b : Int)) (SR.sv g9 b2) (by omega) (by omega)) (vA (qn 42 0 5 (BlkT.vw (ny b) (by omega)) rfl rfl rfl rfl) trivial))) rfl fun _ => ?_
  refine aF (bE b2 rfl) rfl rfl ?_
  rintro _ rm _ ⟨lS, rfl, lB, _⟩
  have lB : HS _ _ _ [_, _, _, [(b9, .cells [(iI c.params), (iI c.regs), (.slice z hv.length A)] none false)], T, dv, [(lS, .cells [(.slice none 0 0), (iI 0), (iI 0), (iI 0), (iI 0)] none false)]] _ := lB
  refine aM (aD (q := 6) lB rfl rfl rfl rfl rfl rfl rfl rfl rfl) rfl ?_
  rintro _ rn _ ⟨h4, _⟩
  have h4 : HS _ _ _ [_, _, _, _, _, _, [(lS, .cells [(.slice (cA (b7 b) 0) (c.blocks.getD b default).ins.length (cK (b7 b) 0)), (iI (c.blocks.getD b default).fin), (iI (c.blocks.getD b default).reg), (iI (c.blocks.getD b default).tgt), (iI (c.blocks.getD b default).els)] none false)]] _ := h4
  refine ae 2 rfl ?_
  refine aa ?_
  refine wRo 2 0 [(1, .o (.slice (cA (b7 b) 0) (c.blocks.getD b default).ins.length (cK (b7 b) 0)))] 35 36 [] [(36, (.slice (cA (b7 b) 0) (c.blocks.getD b default).ins.length (cK (b7 b) 0)))] (vA (ql 40 0 (HS.hc h4 (i := 6) rfl) rfl rfl) trivial) rfl fun _ => ?_
  have ih := HS.snoc h4
  have ih : HS _ _ _ [_, _, _, _, _, _, _, []] _ := ih
  refine aF (bW (α := VInT) (q := 7) (OS.nil : OS lR (.slice none 0 0) ([] : List VInT) []) ih rfl rfl rfl (SR.sv ou ih) rfl rfl rfl rfl rfl rfl rfl (by first | omega | (simp only [List.length_append, List.length_cons, List.length_nil]; first | omega | (have hq := aQ (i := kk) (aC (i := ii) e2); omega)))) rfl rfl ?_
  rintro _ rp oy ⟨c0, c3, rfl, k8, lC, _⟩
  have lC : HS _ _ _ [_, _, _, _, _, _, _, oy] _ := lC
  have k8 : OS lR (.slice c0 (c.blocks.getD b default).ins.length c3) (c.blocks.getD b default).ins oy := k8
  refine wRo 1 3 [] 38 38 [] [(38, (.pointer (some ⟨lS, 0, none⟩)))] trivial rfl fun _ => ?_
  refine aM (aD (q := 6) lC rfl rfl rfl rfl rfl rfl rfl rfl rfl) rfl ?_
  rintro _ rr _ ⟨g0, _⟩
  have g0 : HS _ _ _ [_, _, _, _, _, _, [(lS, .cells [(.slice c0 (c.blocks.getD b default).ins.length c3), (iI (c.blocks.getD b default).fin), (iI (c.blocks.getD b default).reg), (iI (c.blocks.getD b default).tgt), (iI (c.blocks.getD b default).els)] none false)], _] _ := g0
  refine ae 1 rfl ?_
  refine aa ?_
  let lQ : Value := (.agg ⟨[(.slice c0 (c.blocks.getD b default).ins.length c3), (iI (c.blocks.getD b default).fin), (iI (c.blocks.getD b default).reg), (iI (c.blocks.getD b default).tgt), (iI (c.blocks.getD b default).els)]⟩)
  refine wRo 3 0 [(1, .o (.slice z hv.length A)), (2, .o lQ)] 39 41 [] [(40, (.slice z hv.length A)), (41, lQ)] (vA (ql 22 2 (HS.hc g0 (i := 3) rfl) rfl rfl) (vA (qn 42 0 5 (HS.hc g0 (i := 6) rfl) rfl rfl rfl rfl) trivial)) rfl fun _ => ?_
  refine aF (bA (α := BlkH) (ps := [(0, lQ)]) (cells := [(.slice c0 (c.blocks.getD b default).ins.length c3), (iI (c.blocks.getD b default).fin), (iI (c.blocks.getD b default).reg), (iI (c.blocks.getD b default).tgt), (iI (c.blocks.getD b default).els)]) ([(⟨(⟨c0, (c.blocks.getD b default).ins.length, c3⟩ : Hd), (c.blocks.getD b default).fin, (c.blocks.getD b default).reg, (c.blocks.getD b default).tgt, (c.blocks.getD b default).els⟩ : BlkH)] : List BlkH) g0 rfl rfl rfl (by kernel_rfl) ⟨[(.slice c0 (c.blocks.getD b default).ins.length c3), (iI (c.blocks.getD b default).fin), (iI (c.blocks.getD b default).reg), (iI (c.blocks.getD b default).tgt), (iI (c.blocks.getD b default).els)], [], rfl, ⟨rfl, by first | omega | (dsimp only; omega), by first | omega | (dsimp only; omega), by first | omega | (dsimp only; omega), by first | omega | (dsimp only; omega)⟩, rfl⟩ rfl) rfl rfl ?_
  rintro _ rt pz ⟨rI, rO, rfl, oR, iv, _⟩
  have iv : HS _ _ _ [_, _, _, _, _, _, _, _, pz] _ := iv
  refine aF (bW (α := BlkH) (q := 4) E iv rfl rfl rfl (OS.sv oR iv (i := 8) rfl) rfl rfl rfl rfl rfl rfl rfl (by first | omega | (simp only [List.length_append, List.length_cons, List.length_nil]; first | omega | (have hq := aQ (i := kk) (aC (i := ii) e2); omega)))) rfl rfl ?_
  rintro _ ru oz ⟨ow, ox, rfl, oT, lD, _⟩
  have lD : HS _ _ _ [_, _, _, _, oz, _, _, _, _] _ := lD
  obtain ⟨k7, lE, ha⟩ := SF.add (⟨(⟨c0, (c.blocks.getD b default).ins.length, c3⟩ : Hd), (c.blocks.getD b default).fin, (c.blocks.getD b default).reg, (c.blocks.getD b default).tgt, (c.blocks.getD b default).els⟩ : BlkH) g3 lD (q := 5) (m := 7) (by decide) rfl rfl k8
  have lE : HS _ _ _ [_, _, _, _, _, k7, _, [], _] _ := lE
  have ha : SF lR (hv ++ ([(⟨(⟨c0, (c.blocks.getD b default).ins.length, c3⟩ : Hd), (c.blocks.getD b default).fin, (c.blocks.getD b default).reg, (c.blocks.getD b default).tgt, (c.blocks.getD b default).els⟩ : BlkH)] : List BlkH)) (lv ++ [(c.blocks.getD b default).ins]) k7 := ha
  have qY := FAM.len ha
  refine wRo 1 5 [] 44 44 [] [(44, (.pointer (some ⟨b9, 2, none⟩)))] trivial rfl fun _ => ?_
  refine aM (aD (q := 3) lE rfl rfl rfl rfl rfl rfl rfl rfl rfl) rfl ?_
  rintro _ rv _ ⟨lF, _⟩
  have lF : HS _ _ _ [_, _, _, [(b9, .cells [(iI c.params), (iI c.regs), (.slice ow (hv ++ ([(⟨(⟨c0, (c.blocks.getD b default).ins.length, c3⟩ : Hd), (c.blocks.getD b default).fin, (c.blocks.getD b default).reg, (c.blocks.getD b default).tgt, (c.blocks.getD b default).els⟩ : BlkH)] : List BlkH)).length ox)] none false)], _, _, _, _, _] _ := lF
  refine ae 2 rfl ?_
  refine wR 1 [] 28 29 [9] [(9, (iI ((b : Int) + 1)))] (vA (vi (n := (b : Int) + 1) (by omega)) trivial) rfl fun _ => ?_
  refine oU _ _ _ ?_ ⟨hv ++ ([(⟨(⟨c0, (c.blocks.getD b default).ins.length, c3⟩ : Hd), (c.blocks.getD b default).fin, (c.blocks.getD b default).reg, (c.blocks.getD b default).tgt, (c.blocks.getD b default).els⟩ : BlkH)] : List BlkH), lv ++ [(c.blocks.getD b default).ins], b + 1, oz, ow, ox, k7, _, (f7), (HS.sub lF (List.sublist_append_left _ _)), oT, ha, (agC rfl (agC rfl (agC rfl (agC rfl (agC rfl (agC rfl agN)))))), rfl, (by simp; omega), (by exact ok_snoc e2 (hi b)), (by first | assumption | omega | (simp at *; omega)), (by exact fun m hm => ok_snoc (J m hm) (hm b))⟩
  omega
 ·
  try simp only [BS] at mW
  have q0 := fj at_ (hv.length : Int)
  refine wRD 2 [(1, .o (.slice z hv.length A)), (4, .o (.slice z hv.length A)), (6, .o (iI (bF at_ (hv.length : Int))))] 45 52 [11] [(11, (.pointer (some ⟨sB (.slice z hv.length A), sO (.slice z hv.length A) + (bF at_ (hv.length : Int)).toNat * Rp.sz BlkH, none⟩)))] (vA (ql 22 2 (hc0 (HS.hc b2 (i := 3) rfl)) rfl rfl) (vA (ql 22 2 (hc0 (HS.hc b2 (i := 3) rfl)) rfl rfl) (vA (m1.gk ex at_ (hv.length : Int) { ov with log := [] } (by omega)) (vA (Sv.ix (j := bF at_ (hv.length : Int)) (OS.sv E b2 (i := 4) rfl) (by omega) (by omega)) trivial)))) rfl rfl fun _ => ?_
  have hii : (bF at_ (hv.length : Int)).toNat < hv.length := by first | omega | (dsimp only; omega)
  generalize (bF at_ (hv.length : Int)).toNat = ii at hii ⊢
  refine wR 3 [] 1 0 [12] [(12, (.pointer none))] trivial rfl fun _ => ?_
  obtain ⟨qU, nz⟩ := Sv.view (OS.sv E b2 (i := 4) rfl)
  obtain ⟨pO, pP, pQ, pR⟩ := BlkH.fx (nz ii)
  obtain ⟨ni, k6, c9, b0, nj⟩ := SF.open g3 b2 (q := 5) (i := ii) rfl (by omega)
  let nN : Fp := [(b9, .cells [(iI c.params), (iI c.regs), (.slice z hv.length A)] none false)]
  have c9 : HS _ _ _ [g5, g6, [(b6, .cells [(iI how)] none false)], nN, T, ni, k6] _ := c9
  have b0 : OS lR (.slice (hv.getD ii default).h.a (hv.getD ii default).h.n (hv.getD ii default).h.k) (lv.getD ii default) k6 := b0
  have re := OS.nlen b0
  refine wR 1 [(3, .o (.slice (hv.getD ii default).h.a (hv.getD ii default).h.n (hv.getD ii default).h.k))] 53 58 [] [(58, (.bool (decide ((0 : Int) < ((hv.getD ii default).h.n : Int)))))] (vA (ql 40 0 (BlkH.vw (nz ii) (by omega)) rfl rfl) trivial) rfl fun _ => ?_
  refine ak 0 0 (v := (decide ((0 : Int) < ((hv.getD ii default).h.n : Int)))) rfl rfl rfl rfl (fun mX => ?_) (fun mX => ?_)
  ·
   try simp only [BS] at mX
   have hle := (aC (i := ii) e2).1
   obtain ⟨qV, lO⟩ := Sv.view (OS.sv E c9 (i := 4) rfl)
   obtain ⟨pS, pT, pU, pV⟩ := BlkH.fx (lO ii)
   have rh : in64 at_ → in64 (Int.tdiv at_ 7) := fun h => vq h (by decide)
   have q1 := fj (Int.tdiv at_ 7) ((hv.getD ii default).h.n : Int)
   refine wRD 2 [(3, .o (.slice (hv.getD ii default).h.a (hv.getD ii default).h.n (hv.getD ii default).h.k)), (9, .o (.slice (hv.getD ii default).h.a (hv.getD ii default).h.n (hv.getD ii default).h.k)), (11, .o (iI (bF (Int.tdiv at_ 7) ((hv.getD ii default).h.n : Int))))] 59 71 [12] [(12, (.pointer (some ⟨sB (.slice (hv.getD ii default).h.a (hv.getD ii default).h.n (hv.getD ii default).h.k), sO (.slice (hv.getD ii default).h.a (hv.getD ii default).h.n (hv.getD ii default).h.k) + (bF (Int.tdiv at_ 7) ((hv.getD ii default).h.n : Int)).toNat * Rp.sz VInT, none⟩)))] (vA (ql 40 0 (hc0 (BlkH.vw (lO ii) (by omega))) rfl rfl) (vA (vA (show (7 : Int) ≠ 0 from by decide) (vq (a := at_) (b := 7) (by omega) (by decide))) (vA (ql 40 0 (hc0 (BlkH.vw (lO ii) (by omega))) rfl rfl) (vA (m1.gk ex (Int.tdiv at_ 7) ((hv.getD ii default).h.n : Int) { ov with log := [] } (by omega)) (vA (Sv.ix (j := bF (Int.tdiv at_ 7) ((hv.getD ii default).h.n : Int)) (OS.sv b0 c9 (i := 6) rfl) (by omega) (by omega)) trivial))))) rfl rfl fun _ => ?_
   have hkk : (bF (Int.tdiv at_ 7) ((hv.getD ii default).h.n : Int)).toNat < (lv.getD ii default).length := by first | omega | (dsimp only; omega)
   generalize (bF (Int.tdiv at_ 7) ((hv.getD ii default).h.n : Int)).toNat = kk at hkk ⊢
   refine aa ?_
   refine wm (.pointer (some ⟨b6, 0, none⟩)) rfl rfl rfl ?_
   refine aA (ah rfl rfl rfl) rfl rfl (m4.cB ex (⟨how⟩ : DigT) (40) (HS.callOwn c9 (i := 2) rfl) (by omega) (by omega) hT (by omega)) ?_
   rintro _ rx ⟨U, ne, ri, f9, d3, rfl, pj, rL⟩
   replace d3 := HS.backOwn c9 (i := 2) rfl rfl (fun _ hb => hb) d3
   have d3 : HS _ _ _ [g5, g6, [(b6, .cells [(iI ne.n)] none false)], nN, T, ni, k6] _ := d3
   replace hT := hT.mono f9
   refine wRo 2 2 [] 76 76 [13] [(13, (iI (U - 2)))] (vA (vi (n := U - 2) (by omega)) trivial) rfl fun _ => ?_
   refine ae 3 rfl ?_
   refine aa ?_
   refine wm (.pointer (some ⟨b6, 0, none⟩)) rfl rfl rfl ?_
   refine aA (ah rfl rfl rfl) rfl rfl (m4.cB ex (⟨ne.n⟩ : DigT) (14) (HS.callOwn d3 (i := 2) rfl) (by omega) (by omega) hT (by omega)) ?_
   rintro _ ry ⟨ad, ng, dd, go, g1, rfl, pk, rM⟩
   replace g1 := HS.backOwn d3 (i := 2) rfl rfl (fun _ hb => hb) g1
   have g1 : HS _ _ _ [_, _, [(b6, .cells [(iI ng.n)] none false)], _, _, _, _] _ := g1
   replace hT := hT.mono go
   replace b0 := (b0.mono f9).mono go
   replace E := (E.mono f9).mono go
   refine wa (iI ad) rfl rfl rfl ?_
   refine ae 3 rfl ?_
   refine wR 1 [] 79 81 [] [(79, (.bool (ad == 0)))] trivial rfl fun _ => ?_
   obtain ⟨cc, al, a7⟩ := SF.shut0 nj (fT (f9) go) g1 (q := 5) (m := 6) (by decide) rfl rfl b0
   have al : HS _ _ _ [_, _, _, _, _, cc, []] _ := al
   have qZ := FAM.len a7
   refine bP (fun f H' => ∃ (a6 : List BlkH) (d2 : List (List VInT)) (pq : Int) (rq : Int) (bz : Fp) (a4 : Option Addr) (a5 : Nat) (d1 : Fp) (F' : Fz), Fz.le dd F' ∧ HS (Base.of H []) F' H' [g5, g6, [(b6, .cells [(iI ng.n)] none false)], [(b9, .cells [(iI pq), (iI rq), (.slice a4 a6.length a5)] none false)], bz, d1, []] R ∧ OS F' (.slice a4 a6.length a5) a6 bz ∧ SF F' a6 d2 d1 ∧ aI f [(6, (.pointer (some ⟨b3, 0, none⟩))), (8, (.pointer (some ⟨b9, 0, none⟩)))] ∧ (in64 pq ∧ in64 rq) ∧ (a6.length ≤ 1000) ∧ (∀ m, (∀ j, okI m (c.blocks.getD j default).ins) → ∀ y ∈ d2, okI (m + 1) y)) (fun a8 => ?_) ?_
   ·
    refine ak 0 1 (v := (ad == 0)) rfl rfl rfl rfl (fun mY => ?_) (fun mY => ?_)
    ·
     try simp only [BS] at mY
     refine aa ?_
     refine wRo 2 0 [] 82 83 [] [(82, (iI (U - 2))), (83, (.pointer (some ⟨b9, 0, none⟩)))] trivial rfl fun _ => ?_
     refine aM (aD (q := 3) al rfl rfl rfl rfl rfl rfl rfl rfl rfl) rfl ?_
     rintro _ rA _ ⟨lG, _⟩
     have lG : HS _ _ _ [_, _, _, [(b9, .cells [(iI (U - 2)), (iI c.regs), (.slice z hv.length A)] none false)], _, _, _] _ := lG
     refine ae 0 rfl ?_
     exact a8 _ _ ⟨hv, lv, U - 2, c.regs, T, z, A, cc, _, fR, lG, E, a7, (agC rfl (agC rfl agN)), (by first | omega | exact ⟨by omega, by omega⟩), (by first | omega | (simp; omega)), (by exact fun m hm => by first | exact da (J m hm) | exact da (fun y hy => J m hm y (List.mem_of_mem_take hy)) | exact aR (J m hm) (Nat.le_succ_of_le (aQ (aC (J m hm)))) | exact aR (J m hm) (bn (aQ (aC (J m hm)))))⟩
    ·
     try simp only [BS] at mY
     refine wR 1 [] 84 86 [] [(84, (.bool (ad == 1)))] trivial rfl fun _ => ?_
     refine ak 0 1 (v := (ad == 1)) rfl rfl rfl rfl (fun mZ => ?_) (fun mZ => ?_)
     ·
      try simp only [BS] at mZ
      refine aa ?_
      refine wRo 2 0 [] 87 88 [] [(87, (iI (U - 2))), (88, (.pointer (some ⟨b9, 1, none⟩)))] trivial rfl fun _ => ?_
      refine aM (aD (q := 3) al rfl rfl rfl rfl rfl rfl rfl rfl rfl) rfl ?_
      rintro _ rB _ ⟨lH, _⟩
      have lH : HS _ _ _ [_, _, _, [(b9, .cells [(iI c.params), (iI (U - 2)), (.slice z hv.length A)] none false)], _, _, _] _ := lH
      refine ae 0 rfl ?_
      exact a8 _ _ ⟨hv, lv, c.params, U - 2, T, z, A, cc, _, fR, lH, E, a7, (agC rfl (agC rfl agN)), (by first | omega | exact ⟨by omega, by omega⟩), (by first | omega | (simp; omega)), (by exact fun m hm => by first | exact da (J m hm) | exact da (fun y hy => J m hm y (List.mem_of_mem_take hy)) | exact aR (J m hm) (Nat.le_succ_of_le (aQ (aC (J m hm)))) | exact aR (J m hm) (bn (aQ (aC (J m hm)))))⟩
     ·
      try simp only [BS] at mZ
      refine wR 1 [] 89 91 [] [(89, (.bool (ad == 2)))] trivial rfl fun _ => ?_
      refine ak 0 1 (v := (ad == 2)) rfl rfl rfl rfl (fun m0 => ?_) (fun m0 => ?_)
      ·
       try simp only [BS] at m0
       refine aa ?_
       refine wRo 4 0 [] 92 95 [] [(93, (iI (U - 2))), (95, (.pointer (some ⟨sB (.slice z hv.length A), sO (.slice z hv.length A) + ii * Rp.sz BlkH + 1, none⟩)))] trivial rfl fun _ => ?_
       have oN := SF.put (⟨(hv.getD ii default).h, U - 2, (hv.getD ii default).reg, (hv.getD ii default).tgt, (hv.getD ii default).els⟩ : BlkH) a7 (i := ii) rfl
       refine aM (du (α := BlkH) (j := ii) (off := 1) (q := 4) (⟨(hv.getD ii default).h, U - 2, (hv.getD ii default).reg, (hv.getD ii default).tgt, (hv.getD ii default).els⟩ : BlkH) E al rfl rfl rfl rfl rfl rfl rfl rfl (aS (x := default) (by omega)) rfl (by rintro cs ⟨rfl, ay, a0, a1, a2⟩; exact ⟨Nat.le_of_ble_eq_true rfl, ⟨rfl, by first | omega | (dsimp only; omega), a0, a1, a2⟩⟩)) rfl ?_
       rintro _ rD oA ⟨nn, lI, _⟩
       have lI : HS _ _ _ [_, _, _, _, oA, _, _] _ := lI
       have pW := OS.len' nn
       refine ae 0 rfl ?_
       exact a8 _ _ ⟨hv.set ii (⟨(hv.getD ii default).h, U - 2, (hv.getD ii default).reg, (hv.getD ii default).tgt, (hv.getD ii default).els⟩ : BlkH), lv, c.params, c.regs, oA, z, A, cc, _, fR, (by simpa only [List.length_set] using lI), (OS.norm nn), oN, (agC rfl (agC rfl agN)), (by first | omega | exact ⟨by omega, by omega⟩), (by first | omega | (simp; omega)), (by exact fun m hm => by first | exact da (J m hm) | exact da (fun y hy => J m hm y (List.mem_of_mem_take hy)) | exact aR (J m hm) (Nat.le_succ_of_le (aQ (aC (J m hm)))) | exact aR (J m hm) (bn (aQ (aC (J m hm)))))⟩
      ·
       try simp only [BS] at m0
       refine wR 1 [] 96 98 [] [(96, (.bool (ad == 3)))] trivial rfl fun _ => ?_
       refine ak 0 1 (v := (ad == 3)) rfl rfl rfl rfl (fun m7 => ?_) (fun m7 => ?_)
       ·
        try simp only [BS] at m7
        refine aa ?_
        refine wRo 4 0 [] 99 102 [] [(100, (iI (U - 2))), (102, (.pointer (some ⟨sB (.slice z hv.length A), sO (.slice z hv.length A) + ii * Rp.sz BlkH + 2, none⟩)))] trivial rfl fun _ => ?_
        have oO := SF.put (⟨(hv.getD ii default).h, (hv.getD ii default).fin, U - 2, (hv.getD ii default).tgt, (hv.getD ii default).els⟩ : BlkH) a7 (i := ii) rfl
        refine aM (du (α := BlkH) (j := ii) (off := 2) (q := 4) (⟨(hv.getD ii default).h, (hv.getD ii default).fin, U - 2, (hv.getD ii default).tgt, (hv.getD ii default).els⟩ : BlkH) E al rfl rfl rfl rfl rfl rfl rfl rfl (aS (x := default) (by omega)) rfl (by rintro cs ⟨rfl, ay, a0, a1, a2⟩; exact ⟨Nat.le_of_ble_eq_true rfl, ⟨rfl, ay, by first | omega | (dsimp only; omega), a1, a2⟩⟩)) rfl ?_
        rintro _ rE oB ⟨np, lJ, _⟩
        have lJ : HS _ _ _ [_, _, _, _, oB, _, _] _ := lJ
        have pX := OS.len' np
        refine ae 0 rfl ?_
        exact a8 _ _ ⟨hv.set ii (⟨(hv.getD ii default).h, (hv.getD ii default).fin, U - 2, (hv.getD ii default).tgt, (hv.getD ii default).els⟩ : BlkH), lv, c.params, c.regs, oB, z, A, cc, _, fR, (by simpa only [List.length_set] using lJ), (OS.norm np), oO, (agC rfl (agC rfl agN)), (by first | omega | exact ⟨by omega, by omega⟩), (by first | omega | (simp; omega)), (by exact fun m hm => by first | exact da (J m hm) | exact da (fun y hy => J m hm y (List.mem_of_mem_take hy)) | exact aR (J m hm) (Nat.le_succ_of_le (aQ (aC (J m hm)))) | exact aR (J m hm) (bn (aQ (aC (J m hm)))))⟩
       ·
        try simp only [BS] at m7
        refine wR 1 [] 103 105 [] [(103, (.bool (ad == 4)))] trivial rfl fun _ => ?_
        refine ak 0 1 (v := (ad == 4)) rfl rfl rfl rfl (fun m8 => ?_) (fun m8 => ?_)
        ·
         try simp only [BS] at m8
         refine aa ?_
         refine wRo 4 0 [] 106 109 [] [(107, (iI (U - 2))), (109, (.pointer (some ⟨sB (.slice z hv.length A), sO (.slice z hv.length A) + ii * Rp.sz BlkH + 3, none⟩)))] trivial rfl fun _ => ?_
         have oP := SF.put (⟨(hv.getD ii default).h, (hv.getD ii default).fin, (hv.getD ii default).reg, U - 2, (hv.getD ii default).els⟩ : BlkH) a7 (i := ii) rfl
         refine aM (du (α := BlkH) (j := ii) (off := 3) (q := 4) (⟨(hv.getD ii default).h, (hv.getD ii default).fin, (hv.getD ii default).reg, U - 2, (hv.getD ii default).els⟩ : BlkH) E al rfl rfl rfl rfl rfl rfl rfl rfl (aS (x := default) (by omega)) rfl (by rintro cs ⟨rfl, ay, a0, a1, a2⟩; exact ⟨Nat.le_of_ble_eq_true rfl, ⟨rfl, ay, a0, by first | omega | (dsimp only; omega), a2⟩⟩)) rfl ?_
         rintro _ rF oC ⟨nq, lK, _⟩
         have lK : HS _ _ _ [_, _, _, _, oC, _, _] _ := lK
         have pY := OS.len' nq
         refine ae 0 rfl ?_
         exact a8 _ _ ⟨hv.set ii (⟨(hv.getD ii default).h, (hv.getD ii default).fin, (hv.getD ii default).reg, U - 2, (hv.getD ii default).els⟩ : BlkH), lv, c.params, c.regs, oC, z, A, cc, _, fR, (by simpa only [List.length_set] using lK), (OS.norm nq), oP, (agC rfl (agC rfl agN)), (by first | omega | exact ⟨by omega, by omega⟩), (by first | omega | (simp; omega)), (by exact fun m hm => by first | exact da (J m hm) | exact da (fun y hy => J m hm y (List.mem_of_mem_take hy)) | exact aR (J m hm) (Nat.le_succ_of_le (aQ (aC (J m hm)))) | exact aR (J m hm) (bn (aQ (aC (J m hm)))))⟩
        ·
         try simp only [BS] at m8
         refine wR 1 [] 110 112 [] [(110, (.bool (ad == 5)))] trivial rfl fun _ => ?_
         refine ak 0 1 (v := (ad == 5)) rfl rfl rfl rfl (fun na => ?_) (fun na => ?_)
         ·
          try simp only [BS] at na
          refine aa ?_
          refine wRo 4 0 [] 113 116 [] [(114, (iI (U - 2))), (116, (.pointer (some ⟨sB (.slice z hv.length A), sO (.slice z hv.length A) + ii * Rp.sz BlkH + 4, none⟩)))] trivial rfl fun _ => ?_
          have oQ := SF.put (⟨(hv.getD ii default).h, (hv.getD ii default).fin, (hv.getD ii default).reg, (hv.getD ii default).tgt, U - 2⟩ : BlkH) a7 (i := ii) rfl
          refine aM (du (α := BlkH) (j := ii) (off := 4) (q := 4) (⟨(hv.getD ii default).h, (hv.getD ii default).fin, (hv.getD ii default).reg, (hv.getD ii default).tgt, U - 2⟩ : BlkH) E al rfl rfl rfl rfl rfl rfl rfl rfl (aS (x := default) (by omega)) rfl (by rintro cs ⟨rfl, ay, a0, a1, a2⟩; exact ⟨Nat.le_of_ble_eq_true rfl, ⟨rfl, ay, a0, a1, by first | omega | (dsimp only; omega)⟩⟩)) rfl ?_
          rintro _ rG oD ⟨nr, lL, _⟩
          have lL : HS _ _ _ [_, _, _, _, oD, _, _] _ := lL
          have pZ := OS.len' nr
          refine ae 0 rfl ?_
          exact a8 _ _ ⟨hv.set ii (⟨(hv.getD ii default).h, (hv.getD ii default).fin, (hv.getD ii default).reg, (hv.getD ii default).tgt, U - 2⟩ : BlkH), lv, c.params, c.regs, oD, z, A, cc, _, fR, (by simpa only [List.length_set] using lL), (OS.norm nr), oQ, (agC rfl (agC rfl agN)), (by first | omega | exact ⟨by omega, by omega⟩), (by first | omega | (simp; omega)), (by exact fun m hm => by first | exact da (J m hm) | exact da (fun y hy => J m hm y (List.mem_of_mem_take hy)) | exact aR (J m hm) (Nat.le_succ_of_le (aQ (aC (J m hm)))) | exact aR (J m hm) (bn (aQ (aC (J m hm)))))⟩
         ·
          try simp only [BS] at na
          refine wR 1 [] 117 119 [] [(117, (.bool (ad == 6)))] trivial rfl fun _ => ?_
          refine ak 0 1 (v := (ad == 6)) rfl rfl rfl rfl (fun nc => ?_) (fun nc => ?_)
          ·
           try simp only [BS] at nc
           obtain ⟨oK, nh, lM, hh, oL⟩ := SF.open a7 al (q := 5) (i := ii) rfl (by omega)
           have lM : HS _ _ _ [_, _, _, _, _, oK, _, nh] _ := lM
           have hh : OS dd (.slice (hv.getD ii default).h.a (hv.getD ii default).h.n (hv.getD ii default).h.k) (lv.getD ii default) nh := hh
           have rf := OS.nlen hh
           refine aa ?_
           refine wRo 5 0 [] 120 124 [] [(121, (iI (U - 2))), (124, (.pointer (some ⟨sB (.slice (hv.getD ii default).h.a (hv.getD ii default).h.n (hv.getD ii default).h.k), sO (.slice (hv.getD ii default).h.a (hv.getD ii default).h.n (hv.getD ii default).h.k) + kk * Rp.sz VInT, none⟩)))] trivial rfl fun _ => ?_
           refine aM (du (α := VInT) (j := kk) (off := 0) (q := 7) (⟨(⟨U - 2, ((lv.getD ii default).getD kk default).i.a, ((lv.getD ii default).getD kk default).i.b, ((lv.getD ii default).getD kk default).i.c, ((lv.getD ii default).getD kk default).i.n⟩ : InsT), ((lv.getD ii default).getD kk default).args⟩ : VInT) hh lM rfl rfl rfl rfl rfl rfl rfl rfl (aS (x := default) (by omega)) rfl (by rintro cs ⟨c4, c7, rfl, c5, ay, a0, a1, a2, c6⟩; exact ⟨Nat.le_of_ble_eq_true rfl, ⟨c4, c7, rfl, by first | omega | (dsimp only; omega), ay, a0, a1, a2, c6⟩⟩)) rfl ?_
           rintro _ rH pA ⟨ns, lN, _⟩
           have lN : HS _ _ _ [_, _, _, _, _, _, _, pA] _ := lN
           have p0 := OS.len' ns
           refine ae 0 rfl ?_
           obtain ⟨l0, hj, mp⟩ := SF.shut oL fR lN (q := 5) (m := 7) (by decide) rfl rfl ns
           have hj : HS _ _ _ [_, _, _, _, _, l0, _, []] _ := hj
           have pB := FAM.len mp
           exact a8 _ _ ⟨hv, lv.set ii ((lv.getD ii default).set kk (⟨(⟨U - 2, ((lv.getD ii default).getD kk default).i.a, ((lv.getD ii default).getD kk default).i.b, ((lv.getD ii default).getD kk default).i.c, ((lv.getD ii default).getD kk default).i.n⟩ : InsT), ((lv.getD ii default).getD kk default).args⟩ : VInT)), c.params, c.regs, T, z, A, l0, _, fR, (HS.sub hj (List.sublist_append_left _ _)), E, mp, (agC rfl (agC rfl agN)), (by first | omega | exact ⟨by omega, by omega⟩), (by first | omega | (simp; omega)), (by exact fun m hm => by first | exact da (J m hm) | exact da (fun y hy => J m hm y (List.mem_of_mem_take hy)) | exact aR (J m hm) (Nat.le_succ_of_le (aQ (aC (J m hm)))) | exact aR (J m hm) (bn (aQ (aC (J m hm)))))⟩
          ·
           try simp only [BS] at nc
           refine wR 1 [] 125 127 [] [(125, (.bool (ad == 7)))] trivial rfl fun _ => ?_
           refine ak 0 1 (v := (ad == 7)) rfl rfl rfl rfl (fun ja => ?_) (fun ja => ?_)
           ·
            try simp only [BS] at ja
            obtain ⟨nS, lV, hk, ez, nZ⟩ := SF.open a7 al (q := 5) (i := ii) rfl (by omega)
            have hk : HS _ _ _ [_, _, _, _, _, nS, _, lV] _ := hk
            have ez : OS dd (.slice (hv.getD ii default).h.a (hv.getD ii default).h.n (hv.getD ii default).h.k) (lv.getD ii default) lV := ez
            have p5 := OS.nlen ez
            refine aa ?_
            refine wRo 5 0 [] 128 132 [] [(129, (iI (U - 2))), (132, (.pointer (some ⟨sB (.slice (hv.getD ii default).h.a (hv.getD ii default).h.n (hv.getD ii default).h.k), sO (.slice (hv.getD ii default).h.a (hv.getD ii default).h.n (hv.getD ii default).h.k) + kk * Rp.sz VInT + 1, none⟩)))] trivial rfl fun _ => ?_
            refine aM (du (α := VInT) (j := kk) (off := 1) (q := 7) (⟨(⟨((lv.getD ii default).getD kk default).i.op, U - 2, ((lv.getD ii default).getD kk default).i.b, ((lv.getD ii default).getD kk default).i.c, ((lv.getD ii default).getD kk default).i.n⟩ : InsT), ((lv.getD ii default).getD kk default).args⟩ : VInT) ez hk rfl rfl rfl rfl rfl rfl rfl rfl (aS (x := default) (by omega)) rfl (by rintro cs ⟨c4, c7, rfl, c5, ay, a0, a1, a2, c6⟩; exact ⟨Nat.le_of_ble_eq_true rfl, ⟨c4, c7, rfl, c5, by first | omega | (dsimp only; omega), a0, a1, a2, c6⟩⟩)) rfl ?_
            rintro _ qj o0 ⟨mA, hl, _⟩
            have hl : HS _ _ _ [_, _, _, _, _, _, _, o0] _ := hl
            have pl := OS.len' mA
            refine ae 0 rfl ?_
            obtain ⟨l1, hn, mq⟩ := SF.shut nZ fR hl (q := 5) (m := 7) (by decide) rfl rfl mA
            have hn : HS _ _ _ [_, _, _, _, _, l1, _, []] _ := hn
            have pC := FAM.len mq
            exact a8 _ _ ⟨hv, lv.set ii ((lv.getD ii default).set kk (⟨(⟨((lv.getD ii default).getD kk default).i.op, U - 2, ((lv.getD ii default).getD kk default).i.b, ((lv.getD ii default).getD kk default).i.c, ((lv.getD ii default).getD kk default).i.n⟩ : InsT), ((lv.getD ii default).getD kk default).args⟩ : VInT)), c.params, c.regs, T, z, A, l1, _, fR, (HS.sub hn (List.sublist_append_left _ _)), E, mq, (agC rfl (agC rfl agN)), (by first | omega | exact ⟨by omega, by omega⟩), (by first | omega | (simp; omega)), (by exact fun m hm => by first | exact da (J m hm) | exact da (fun y hy => J m hm y (List.mem_of_mem_take hy)) | exact aR (J m hm) (Nat.le_succ_of_le (aQ (aC (J m hm)))) | exact aR (J m hm) (bn (aQ (aC (J m hm)))))⟩
           ·
            try simp only [BS] at ja
            refine wR 1 [] 133 135 [] [(133, (.bool (ad == 8)))] trivial rfl fun _ => ?_
            refine ak 0 1 (v := (ad == 8)) rfl rfl rfl rfl (fun jb => ?_) (fun jb => ?_)
            ·
             try simp only [BS] at jb
             obtain ⟨nT, lW, hp, e0, n1⟩ := SF.open a7 al (q := 5) (i := ii) rfl (by omega)
             have hp : HS _ _ _ [_, _, _, _, _, nT, _, lW] _ := hp
             have e0 : OS dd (.slice (hv.getD ii default).h.a (hv.getD ii default).h.n (hv.getD ii default).h.k) (lv.getD ii default) lW := e0
             have p6 := OS.nlen e0
             refine aa ?_
             refine wRo 5 0 [] 136 140 [] [(137, (iI (U - 2))), (140, (.pointer (some ⟨sB (.slice (hv.getD ii default).h.a (hv.getD ii default).h.n (hv.getD ii default).h.k), sO (.slice (hv.getD ii default).h.a (hv.getD ii default).h.n (hv.getD ii default).h.k) + kk * Rp.sz VInT + 2, none⟩)))] trivial rfl fun _ => ?_
             refine aM (du (α := VInT) (j := kk) (off := 2) (q := 7) (⟨(⟨((lv.getD ii default).getD kk default).i.op, ((lv.getD ii default).getD kk default).i.a, U - 2, ((lv.getD ii default).getD kk default).i.c, ((lv.getD ii default).getD kk default).i.n⟩ : InsT), ((lv.getD ii default).getD kk default).args⟩ : VInT) e0 hp rfl rfl rfl rfl rfl rfl rfl rfl (aS (x := default) (by omega)) rfl (by rintro cs ⟨c4, c7, rfl, c5, ay, a0, a1, a2, c6⟩; exact ⟨Nat.le_of_ble_eq_true rfl, ⟨c4, c7, rfl, c5, ay, by first | omega | (dsimp only; omega), a1, a2, c6⟩⟩)) rfl ?_
             rintro _ qk o1 ⟨mB, hr, _⟩
             have hr : HS _ _ _ [_, _, _, _, _, _, _, o1] _ := hr
             have pm := OS.len' mB
             refine ae 0 rfl ?_
             obtain ⟨l2, ht, mr⟩ := SF.shut n1 fR hr (q := 5) (m := 7) (by decide) rfl rfl mB
             have ht : HS _ _ _ [_, _, _, _, _, l2, _, []] _ := ht
             have pD := FAM.len mr
             exact a8 _ _ ⟨hv, lv.set ii ((lv.getD ii default).set kk (⟨(⟨((lv.getD ii default).getD kk default).i.op, ((lv.getD ii default).getD kk default).i.a, U - 2, ((lv.getD ii default).getD kk default).i.c, ((lv.getD ii default).getD kk default).i.n⟩ : InsT), ((lv.getD ii default).getD kk default).args⟩ : VInT)), c.params, c.regs, T, z, A, l2, _, fR, (HS.sub ht (List.sublist_append_left _ _)), E, mr, (agC rfl (agC rfl agN)), (by first | omega | exact ⟨by omega, by omega⟩), (by first | omega | (simp; omega)), (by exact fun m hm => by first | exact da (J m hm) | exact da (fun y hy => J m hm y (List.mem_of_mem_take hy)) | exact aR (J m hm) (Nat.le_succ_of_le (aQ (aC (J m hm)))) | exact aR (J m hm) (bn (aQ (aC (J m hm)))))⟩
            ·
             try simp only [BS] at jb
             refine wR 1 [] 141 143 [] [(141, (.bool (ad == 9)))] trivial rfl fun _ => ?_
             refine ak 0 1 (v := (ad == 9)) rfl rfl rfl rfl (fun jc => ?_) (fun jc => ?_)
             ·
              try simp only [BS] at jc
              obtain ⟨nU, lX, hu, e5, n2⟩ := SF.open a7 al (q := 5) (i := ii) rfl (by omega)
              have hu : HS _ _ _ [_, _, _, _, _, nU, _, lX] _ := hu
              have e5 : OS dd (.slice (hv.getD ii default).h.a (hv.getD ii default).h.n (hv.getD ii default).h.k) (lv.getD ii default) lX := e5
              have p7 := OS.nlen e5
              refine aa ?_
              refine wRo 5 0 [] 144 148 [] [(145, (iI (U - 2))), (148, (.pointer (some ⟨sB (.slice (hv.getD ii default).h.a (hv.getD ii default).h.n (hv.getD ii default).h.k), sO (.slice (hv.getD ii default).h.a (hv.getD ii default).h.n (hv.getD ii default).h.k) + kk * Rp.sz VInT + 3, none⟩)))] trivial rfl fun _ => ?_
              refine aM (du (α := VInT) (j := kk) (off := 3) (q := 7) (⟨(⟨((lv.getD ii default).getD kk default).i.op, ((lv.getD ii default).getD kk default).i.a, ((lv.getD ii default).getD kk default).i.b, U - 2, ((lv.getD ii default).getD kk default).i.n⟩ : InsT), ((lv.getD ii default).getD kk default).args⟩ : VInT) e5 hu rfl rfl rfl rfl rfl rfl rfl rfl (aS (x := default) (by omega)) rfl (by rintro cs ⟨c4, c7, rfl, c5, ay, a0, a1, a2, c6⟩; exact ⟨Nat.le_of_ble_eq_true rfl, ⟨c4, c7, rfl, c5, ay, a0, by first | omega | (dsimp only; omega), a2, c6⟩⟩)) rfl ?_
              rintro _ qm o2 ⟨mC, hw, _⟩
              have hw : HS _ _ _ [_, _, _, _, _, _, _, o2] _ := hw
              have pn := OS.len' mC
              refine ae 0 rfl ?_
              obtain ⟨l3, hz, ms⟩ := SF.shut n2 fR hw (q := 5) (m := 7) (by decide) rfl rfl mC
              have hz : HS _ _ _ [_, _, _, _, _, l3, _, []] _ := hz
              have pE := FAM.len ms
              exact a8 _ _ ⟨hv, lv.set ii ((lv.getD ii default).set kk (⟨(⟨((lv.getD ii default).getD kk default).i.op, ((lv.getD ii default).getD kk default).i.a, ((lv.getD ii default).getD kk default).i.b, U - 2, ((lv.getD ii default).getD kk default).i.n⟩ : InsT), ((lv.getD ii default).getD kk default).args⟩ : VInT)), c.params, c.regs, T, z, A, l3, _, fR, (HS.sub hz (List.sublist_append_left _ _)), E, ms, (agC rfl (agC rfl agN)), (by first | omega | exact ⟨by omega, by omega⟩), (by first | omega | (simp; omega)), (by exact fun m hm => by first | exact da (J m hm) | exact da (fun y hy => J m hm y (List.mem_of_mem_take hy)) | exact aR (J m hm) (Nat.le_succ_of_le (aQ (aC (J m hm)))) | exact aR (J m hm) (bn (aQ (aC (J m hm)))))⟩
             ·
              try simp only [BS] at jc
              refine wR 1 [] 149 151 [] [(149, (.bool (ad == 10)))] trivial rfl fun _ => ?_
              refine ak 0 1 (v := (ad == 10)) rfl rfl rfl rfl (fun jq => ?_) (fun jq => ?_)
              ·
               try simp only [BS] at jq
               obtain ⟨nV, lY, e6, ci, n3⟩ := SF.open a7 al (q := 5) (i := ii) rfl (by omega)
               have e6 : HS _ _ _ [_, _, _, _, _, nV, _, lY] _ := e6
               have ci : OS dd (.slice (hv.getD ii default).h.a (hv.getD ii default).h.n (hv.getD ii default).h.k) (lv.getD ii default) lY := ci
               have p8 := OS.nlen ci
               refine aa ?_
               refine wRo 2 0 [] 152 153 [] [(152, (.pointer (some ⟨sB (.slice (hv.getD ii default).h.a (hv.getD ii default).h.n (hv.getD ii default).h.k), sO (.slice (hv.getD ii default).h.a (hv.getD ii default).h.n (hv.getD ii default).h.k) + kk * Rp.sz VInT, none⟩))), (153, (iI (U - 2)))] trivial rfl fun _ => ?_
               refine aA (ah rfl rfl rfl) rfl rfl (m4.word_c ex (U - 2) (1099511627776) (HS.call e6) (by omega) (by omega) hT) ?_
               rintro _ qo ⟨nK, qa, ea, dn, rfl, q2⟩
               replace dn := HS.back e6 rfl dn
               have dn : HS _ _ _ [_, _, _, _, _, _, _, _] _ := dn
               replace ci := ci.mono ea
               replace E := E.mono ea
               refine wRo 3 3 [] 155 157 [] [(157, (.pointer (some ⟨sB (.slice (hv.getD ii default).h.a (hv.getD ii default).h.n (hv.getD ii default).h.k), sO (.slice (hv.getD ii default).h.a (hv.getD ii default).h.n (hv.getD ii default).h.k) + kk * Rp.sz VInT + 4, none⟩)))] trivial rfl fun _ => ?_
               refine aM (du (α := VInT) (j := kk) (off := 4) (q := 7) (⟨(⟨((lv.getD ii default).getD kk default).i.op, ((lv.getD ii default).getD kk default).i.a, ((lv.getD ii default).getD kk default).i.b, ((lv.getD ii default).getD kk default).i.c, nK⟩ : InsT), ((lv.getD ii default).getD kk default).args⟩ : VInT) ci dn rfl rfl rfl rfl rfl rfl rfl rfl (aS (x := default) (by omega)) rfl (by rintro cs ⟨c4, c7, rfl, c5, ay, a0, a1, a2, c6⟩; exact ⟨Nat.le_of_ble_eq_true rfl, ⟨c4, c7, rfl, c5, ay, a0, a1, by first | omega | (dsimp only; omega), c6⟩⟩)) rfl ?_
               rintro _ qp o3 ⟨mD, hA, _⟩
               have hA : HS _ _ _ [_, _, _, _, _, _, _, o3] _ := hA
               have po := OS.len' mD
               refine ae 0 rfl ?_
               obtain ⟨l4, hB, mu⟩ := SF.shut n3 (ea) hA (q := 5) (m := 7) (by decide) rfl rfl mD
               have hB : HS _ _ _ [_, _, _, _, _, l4, _, []] _ := hB
               have pF := FAM.len mu
               exact a8 _ _ ⟨hv, lv.set ii ((lv.getD ii default).set kk (⟨(⟨((lv.getD ii default).getD kk default).i.op, ((lv.getD ii default).getD kk default).i.a, ((lv.getD ii default).getD kk default).i.b, ((lv.getD ii default).getD kk default).i.c, nK⟩ : InsT), ((lv.getD ii default).getD kk default).args⟩ : VInT)), c.params, c.regs, T, z, A, l4, _, (ea), (HS.sub hB (List.sublist_append_left _ _)), E, mu, (agC rfl (agC rfl agN)), (by first | omega | exact ⟨by omega, by omega⟩), (by first | omega | (simp; omega)), (by exact fun m hm => by first | exact da (J m hm) | exact da (fun y hy => J m hm y (List.mem_of_mem_take hy)) | exact aR (J m hm) (Nat.le_succ_of_le (aQ (aC (J m hm)))) | exact aR (J m hm) (bn (aQ (aC (J m hm)))))⟩
              ·
               try simp only [BS] at jq
               refine wR 1 [] 158 160 [] [(158, (.bool (ad == 11)))] trivial rfl fun _ => ?_
               refine ak 0 1 (v := (ad == 11)) rfl rfl rfl rfl (fun jw => ?_) (fun jw => ?_)
               ·
                try simp only [BS] at jw
                obtain ⟨nW, lZ, fd, b4, n4⟩ := SF.open a7 al (q := 5) (i := ii) rfl (by omega)
                have fd : HS _ _ _ [_, _, _, _, _, nW, _, lZ] _ := fd
                have b4 : OS dd (.slice (hv.getD ii default).h.a (hv.getD ii default).h.n (hv.getD ii default).h.k) (lv.getD ii default) lZ := b4
                have p9 := OS.nlen b4
                refine aa ?_
                obtain ⟨d4, mM⟩ := Sv.view (OS.sv b4 fd (i := 7) rfl)
                obtain ⟨pe, pf, pg, ph, pi, nM⟩ := VInT.fx (mM kk)
                refine wRo 5 0 [(4, .o (.slice (cA (d4 kk) 5) ((lv.getD ii default).getD kk default).args.length (cK (d4 kk) 5)))] 161 165 [] [(161, (.pointer (some ⟨sB (.slice (hv.getD ii default).h.a (hv.getD ii default).h.n (hv.getD ii default).h.k), sO (.slice (hv.getD ii default).h.a (hv.getD ii default).h.n (hv.getD ii default).h.k) + kk * Rp.sz VInT, none⟩))), (165, (.slice (cA (d4 kk) 5) ((lv.getD ii default).getD kk default).args.length (cK (d4 kk) 5)))] (vA (ql 25 5 (VInT.vw (mM kk) (by omega)) rfl rfl) trivial) rfl fun _ => ?_
                have fi := HS.snoc fd
                have fi : HS _ _ _ [_, _, _, _, _, _, _, _, []] _ := fi
                refine aF (bW (α := Int) (q := 8) (OS.nil : OS dd (.slice none 0 0) ([] : List Int) []) fi rfl rfl rfl (SR.sv nM fi) rfl rfl rfl rfl rfl rfl rfl (by first | omega | (simp only [List.length_append, List.length_cons, List.length_nil]; first | omega | (have hq := aQ (i := kk) (aC (i := ii) e2); omega)))) rfl rfl ?_
                rintro _ qq nD ⟨oG, oX, rfl, he, hC, _⟩
                have hC : HS _ _ _ [_, _, _, _, _, _, _, _, nD] _ := hC
                have he : OS dd (.slice oG ((lv.getD ii default).getD kk default).args.length oX) ((lv.getD ii default).getD kk default).args nD := he
                refine wm (iI (U - 2)) rfl rfl rfl ?_
                refine aF (bA (α := Int) (ps := [(0, (iI (U - 2)))]) (cells := [(iI (U - 2))]) ([U - 2] : List Int) hC rfl rfl rfl (by kernel_rfl) ⟨[(iI (U - 2))], [], rfl, ⟨rfl, by first | omega | (dsimp only; omega)⟩, rfl⟩ rfl) rfl rfl ?_
                rintro _ qr o4 ⟨qS, q9, rfl, oc, f0, _⟩
                have f0 : HS _ _ _ [_, _, _, _, _, _, _, _, _, o4] _ := f0
                refine aF (bW (α := Int) (q := 8) he f0 rfl rfl rfl (OS.sv oc f0 (i := 9) rfl) rfl rfl rfl rfl rfl rfl rfl (by first | omega | (simp only [List.length_append, List.length_cons, List.length_nil]; first | omega | (have hq := aQ (i := kk) (aC (i := ii) e2); omega)))) rfl rfl ?_
                rintro _ qs o5 ⟨oH, oY, rfl, od, hD, _⟩
                have hD : HS _ _ _ [_, _, _, _, _, _, _, _, o5, _] _ := hD
                refine wRo 2 9 [] 170 171 [] [(171, (.pointer (some ⟨sB (.slice (hv.getD ii default).h.a (hv.getD ii default).h.n (hv.getD ii default).h.k), sO (.slice (hv.getD ii default).h.a (hv.getD ii default).h.n (hv.getD ii default).h.k) + kk * Rp.sz VInT + 5, none⟩)))] trivial rfl fun _ => ?_
                obtain ⟨qb, em, hE, oi, p1⟩ := OS.frz od hD (i := 8) rfl
                have hE : HS _ _ _ [_, _, _, _, _, _, _, _, [], _] _ := hE
                replace b4 := b4.mono em
                replace E := E.mono em
                refine aM (du (α := VInT) (j := kk) (off := 5) (q := 7) (⟨(⟨((lv.getD ii default).getD kk default).i.op, ((lv.getD ii default).getD kk default).i.a, ((lv.getD ii default).getD kk default).i.b, ((lv.getD ii default).getD kk default).i.c, ((lv.getD ii default).getD kk default).i.n⟩ : InsT), ((lv.getD ii default).getD kk default).args ++ ([U - 2] : List Int)⟩ : VInT) b4 hE rfl rfl rfl rfl rfl rfl rfl rfl (aS (x := default) (by omega)) rfl (by rintro cs ⟨c4, c7, rfl, c5, ay, a0, a1, a2, c6⟩; exact ⟨Nat.le_of_ble_eq_true rfl, ⟨oH, oY, rfl, c5, ay, a0, a1, a2, oi⟩⟩)) rfl ?_
                rintro _ qt o6 ⟨mE, hF, _⟩
                have hF : HS _ _ _ [_, _, _, _, _, _, _, o6, _, _] _ := hF
                have pr := OS.len' mE
                refine ae 0 rfl ?_
                obtain ⟨l5, hG, mw⟩ := SF.shut n4 (em) hF (q := 5) (m := 7) (by decide) rfl rfl mE
                have hG : HS _ _ _ [_, _, _, _, _, l5, _, [], _, _] _ := hG
                have pG := FAM.len mw
                exact a8 _ _ ⟨hv, lv.set ii ((lv.getD ii default).set kk (⟨(⟨((lv.getD ii default).getD kk default).i.op, ((lv.getD ii default).getD kk default).i.a, ((lv.getD ii default).getD kk default).i.b, ((lv.getD ii default).getD kk default).i.c, ((lv.getD ii default).getD kk default).i.n⟩ : InsT), ((lv.getD ii default).getD kk default).args ++ ([U - 2] : List Int)⟩ : VInT)), c.params, c.regs, T, z, A, l5, _, (em), (HS.sub hG (List.sublist_append_left _ _)), E, mw, (agC rfl (agC rfl agN)), (by first | omega | exact ⟨by omega, by omega⟩), (by first | omega | (simp; omega)), (by exact fun m hm => by first | exact da (J m hm) | exact da (fun y hy => J m hm y (List.mem_of_mem_take hy)) | exact aR (J m hm) (Nat.le_succ_of_le (aQ (aC (J m hm)))) | exact aR (J m hm) (bn (aQ (aC (J m hm)))))⟩
               ·
                try simp only [BS] at jw
                refine wR 1 [] 172 174 [] [(172, (.bool (ad == 12)))] trivial rfl fun _ => ?_
                refine ak 0 0 (v := (ad == 12)) rfl rfl rfl rfl (fun kc => ?_) (fun kc => ?_)
                ·
                 try simp only [BS] at kc
                 refine aa ?_
                 refine wRo 8 0 [(1, .o (.slice z hv.length A)), (4, .o (.slice z hv.length A))] 175 182 [] [(176, (.slice z hv.length A)), (182, (iI (if (if (hv.length : Int) < U - 2 then (hv.length : Int) else U - 2) > (0 : Int) then (if (hv.length : Int) < U - 2 then (hv.length : Int) else U - 2) else (0 : Int))))] (vA (ql 22 2 (HS.hc al (i := 3) rfl) rfl rfl) (vA (ql 22 2 (HS.hc al (i := 3) rfl) rfl rfl) trivial)) rfl fun _ => ?_
                 refine aF (rs_cutOt (α := BlkH) (j := (if (if (hv.length : Int) < U - 2 then (hv.length : Int) else U - 2) > (0 : Int) then (if (hv.length : Int) < U - 2 then (hv.length : Int) else U - 2) else (0 : Int)).toNat) E al (q := 4) rfl rfl rfl rfl (optN (by omega)) (by omega)) rfl rfl ?_
                 rintro _ _ _ ⟨mO, nA, rfl, es, og⟩
                 simp only at es; replace es := es.symm; subst es
                 obtain ⟨l6, nX, nQ, mx⟩ := FAM.take (if (if (hv.length : Int) < U - 2 then (hv.length : Int) else U - 2) > (0 : Int) then (if (hv.length : Int) < U - 2 then (hv.length : Int) else U - 2) else (0 : Int)).toNat a7
                 have hH := HS.open al (i := 5) rfl (List.Perm.of_eq nQ)
                 have hH : HS _ _ _ [_, _, _, _, _, l6, _, nX] _ := hH
                 have pH := FAM.len mx
                 refine wRo 1 9 [] 184 184 [] [(184, (.pointer (some ⟨b9, 2, none⟩)))] trivial rfl fun _ => ?_
                 refine aM (aD (q := 3) hH rfl rfl rfl rfl rfl rfl rfl rfl rfl) rfl ?_
                 rintro _ qu _ ⟨hI, _⟩
                 have hI : HS _ _ _ [_, _, _, [(b9, .cells [(iI c.params), (iI c.regs), (.slice mO (hv.take (if (if (hv.length : Int) < U - 2 then (hv.length : Int) else U - 2) > (0 : Int) then (if (hv.length : Int) < U - 2 then (hv.length : Int) else U - 2) else (0 : Int)).toNat).length nA)] none false)], _, _, _, _] _ := hI
                 refine ae 0 rfl ?_
                 exact a8 _ _ ⟨hv.take (if (if (hv.length : Int) < U - 2 then (hv.length : Int) else U - 2) > (0 : Int) then (if (hv.length : Int) < U - 2 then (hv.length : Int) else U - 2) else (0 : Int)).toNat, lv.take (if (if (hv.length : Int) < U - 2 then (hv.length : Int) else U - 2) > (0 : Int) then (if (hv.length : Int) < U - 2 then (hv.length : Int) else U - 2) else (0 : Int)).toNat, c.params, c.regs, T, mO, nA, l6, _, fR, (HS.sub hI (List.sublist_append_left _ _)), og, mx, (agC rfl (agC rfl agN)), (by first | omega | exact ⟨by omega, by omega⟩), (by first | omega | (simp; omega)), (by exact fun m hm => by first | exact da (J m hm) | exact da (fun y hy => J m hm y (List.mem_of_mem_take hy)) | exact aR (J m hm) (Nat.le_succ_of_le (aQ (aC (J m hm)))) | exact aR (J m hm) (bn (aQ (aC (J m hm)))))⟩
                ·
                 try simp only [BS] at kc
                 exact a8 _ _ ⟨hv, lv, c.params, c.regs, T, z, A, cc, _, fR, al, E, a7, (agC rfl (agC rfl agN)), (by first | omega | exact ⟨by omega, by omega⟩), (by first | omega | (simp; omega)), (by exact fun m hm => by first | exact da (J m hm) | exact da (fun y hy => J m hm y (List.mem_of_mem_take hy)) | exact aR (J m hm) (Nat.le_succ_of_le (aQ (aC (J m hm)))) | exact aR (J m hm) (bn (aQ (aC (J m hm)))))⟩
   ·
    rintro rK rz ⟨a6, d2, pq, rq, bz, a4, a5, d1, rj, oM, nx, ch, i2, nm, j0, j1, j2⟩
    refine au _ nm (fun _ => ?_)
    clear nm
    have o9 := FAM.len i2
    refine aj 3 rfl ?_
    refine aa ?_
    let nO : Value := (.agg ⟨[(iI pq), (iI rq), (.slice a4 a6.length a5)]⟩)
    refine wRo 1 0 [(0, .o nO)] 185 185 [] [(185, nO)] (vA (qn 24 0 3 (HS.hc nx (i := 3) rfl) rfl rfl rfl rfl) trivial) rfl fun _ => ?_
    refine aM (aD (q := 1) nx rfl rfl rfl rfl rfl rfl rfl rfl rfl) rfl ?_
    rintro _ qv _ ⟨hK, _⟩
    have hK : HS _ _ _ [_, [(b3, .cells [(iI pq), (iI rq), (.slice a4 a6.length a5)] none false)], _, [(b9, .cells [(iI pq), (iI rq), (.slice a4 a6.length a5)] none false)], bz, d1, _] _ := hK
    refine ae 1 rfl ?_
    obtain ⟨qc, l8, hM, n6⟩ := SF.freeze i2 hK (q := 5) rfl
    have hM : HS _ _ _ [_, _, _, _, _, [], _] _ := hM
    replace ch := ch.mono l8
    obtain ⟨qd, l9, f1, oj, p2⟩ := OS.frz ch hM (i := 4) rfl
    have f1 : HS _ _ _ [_, _, _, _, [], _, _] _ := f1
    have mJ := blkH_rows oj (by omega) (fun i hi => SR.mono l9 (n6 i hi))
    have oo := SR.len' mJ
    have nt := SR.norm mJ
    refine ag ⟨.inr rfl, _, (rC rfl (ldVN rfl rfl (HS.hc f1 (i := 1) rfl) rfl) rN), (⟨pq, rq, (blkZ a6 d2)⟩ : VFnT), a4, a5, _, (fT (fT (fT (fT (fT (f7) f9) go) oM) l8) l9), (HS.forget f1), (by simp only [oo]; rfl), (by first | omega | (dsimp only; omega)), (by first | omega | (dsimp only; omega)), nt, (by exact Nat.le_trans blkZ_len j1), (by exact fun m hm => blkZ_ok (j2 m hm))⟩
  ·
   try simp only [BS] at mX
   refine aa ?_
   refine wRo 1 0 [] 72 72 [] [(72, (.agg ⟨[(iI 0), (iI 0), (iI 0), (iI 0), (iI 0), (.slice none 0 0)]⟩))] trivial rfl fun _ => ?_
   refine aF (bB c9 rfl rfl) rfl rfl ?_
   rintro _ qw _ ⟨av, rfl, f2, _⟩
   have f2 : HS _ _ _ [_, _, _, _, _, _, _, [(av, .cells [(iI 0), (iI 0), (iI 0), (iI 0), (iI 0), (.slice none 0 0)] none false)]] _ := f2
   refine wa (.pointer (some ⟨av, 0, none⟩)) rfl rfl rfl ?_
   refine ae 2 rfl ?_
   refine aa ?_
   refine wm (.pointer (some ⟨b6, 0, none⟩)) rfl rfl rfl ?_
   refine aA (ah rfl rfl rfl) rfl rfl (m4.cB ex (⟨how⟩ : DigT) (40) (HS.callOwn f2 (i := 2) rfl) (by omega) (by omega) hT (by omega)) ?_
   rintro _ qx ⟨N, lT, qe, dk, cl, rfl, pb, q3⟩
   replace cl := HS.backOwn f2 (i := 2) rfl rfl (fun _ hb => hb) cl
   have cl : HS _ _ _ [_, _, [(b6, .cells [(iI lT.n)] none false)], _, _, _, _, _] _ := cl
   replace hT := hT.mono dk
   refine wRo 2 2 [] 76 76 [13] [(13, (iI (N - 2)))] (vA (vi (n := N - 2) (by omega)) trivial) rfl fun _ => ?_
   refine ae 3 rfl ?_
   refine aa ?_
   refine wm (.pointer (some ⟨b6, 0, none⟩)) rfl rfl rfl ?_
   refine aA (ah rfl rfl rfl) rfl rfl (m4.cB ex (⟨lT.n⟩ : DigT) (14) (HS.callOwn cl (i := 2) rfl) (by omega) (by omega) hT (by omega)) ?_
   rintro _ qy ⟨V, lU, a3, dl, ds, rfl, pc, q4⟩
   replace ds := HS.backOwn cl (i := 2) rfl rfl (fun _ hb => hb) ds
   have ds : HS _ _ _ [_, _, [(b6, .cells [(iI lU.n)] none false)], _, _, _, _, _] _ := ds
   replace hT := hT.mono dl
   replace b0 := (b0.mono dk).mono dl
   replace E := (E.mono dk).mono dl
   refine wa (iI V) rfl rfl rfl ?_
   refine ae 3 rfl ?_
   refine wR 1 [] 79 81 [] [(79, (.bool (V == 0)))] trivial rfl fun _ => ?_
   obtain ⟨aw, Y, Z⟩ := SF.shut0 nj (fT (dk) dl) ds (q := 5) (m := 6) (by decide) rfl rfl b0
   have Y : HS _ _ _ [_, _, _, _, _, aw, [], _] _ := Y
   have pI := FAM.len Z
   refine bP (fun f H' => ∃ (a6 : List BlkH) (d2 : List (List VInT)) (pq : Int) (rq : Int) (mR : Int) (mS : Int) (mT : Int) (mU : Int) (mV : Int) (bva : List Int) (bl : Fp) (an : Option Addr) (ar : Nat) (bb : Option Addr) (bk : Nat) (co : Fp) (F' : Fz), Fz.le a3 F' ∧ HS (Base.of H []) F' H' [g5, g6, [(b6, .cells [(iI lU.n)] none false)], [(b9, .cells [(iI pq), (iI rq), (.slice an a6.length ar)] none false)], bl, co, [], [(av, .cells [(iI mR), (iI mS), (iI mT), (iI mU), (iI mV), (.slice bb bva.length bk)] none false)]] R ∧ OS F' (.slice an a6.length ar) a6 bl ∧ SR F' (.slice bb bva.length bk) bva ∧ SF F' a6 d2 co ∧ aI f [(6, (.pointer (some ⟨b3, 0, none⟩))), (8, (.pointer (some ⟨b9, 0, none⟩)))] ∧ (in64 pq ∧ in64 rq) ∧ (a6.length ≤ 1000) ∧ (∀ m, (∀ j, okI m (c.blocks.getD j default).ins) → ∀ y ∈ d2, okI (m + 1) y)) (fun ax => ?_) ?_
   ·
    refine ak 0 1 (v := (V == 0)) rfl rfl rfl rfl (fun kd => ?_) (fun kd => ?_)
    ·
     try simp only [BS] at kd
     refine aa ?_
     refine wRo 2 0 [] 82 83 [] [(82, (iI (N - 2))), (83, (.pointer (some ⟨b9, 0, none⟩)))] trivial rfl fun _ => ?_
     refine aM (aD (q := 3) Y rfl rfl rfl rfl rfl rfl rfl rfl rfl) rfl ?_
     rintro _ qA _ ⟨hQ, _⟩
     have hQ : HS _ _ _ [_, _, _, [(b9, .cells [(iI (N - 2)), (iI c.regs), (.slice z hv.length A)] none false)], _, _, _, _] _ := hQ
     refine ae 0 rfl ?_
     exact ax _ _ ⟨hv, lv, N - 2, c.regs, 0, 0, 0, 0, 0, ([] : List Int), T, z, A, none, 0, aw, _, fR, hQ, E, (SR.nil : SR a3 (.slice none 0 0) ([] : List Int)), Z, (agC rfl (agC rfl agN)), (by first | omega | exact ⟨by omega, by omega⟩), (by first | omega | (simp; omega)), (by exact fun m hm => by first | exact da (J m hm) | exact da (fun y hy => J m hm y (List.mem_of_mem_take hy)) | exact aR (J m hm) (Nat.le_succ_of_le (aQ (aC (J m hm)))) | exact aR (J m hm) (bn (aQ (aC (J m hm)))))⟩
    ·
     try simp only [BS] at kd
     refine wR 1 [] 84 86 [] [(84, (.bool (V == 1)))] trivial rfl fun _ => ?_
     refine ak 0 1 (v := (V == 1)) rfl rfl rfl rfl (fun ki => ?_) (fun ki => ?_)
     ·
      try simp only [BS] at ki
      refine aa ?_
      refine wRo 2 0 [] 87 88 [] [(87, (iI (N - 2))), (88, (.pointer (some ⟨b9, 1, none⟩)))] trivial rfl fun _ => ?_
      refine aM (aD (q := 3) Y rfl rfl rfl rfl rfl rfl rfl rfl rfl) rfl ?_
      rintro _ qB _ ⟨hR, _⟩
      have hR : HS _ _ _ [_, _, _, [(b9, .cells [(iI c.params), (iI (N - 2)), (.slice z hv.length A)] none false)], _, _, _, _] _ := hR
      refine ae 0 rfl ?_
      exact ax _ _ ⟨hv, lv, c.params, N - 2, 0, 0, 0, 0, 0, ([] : List Int), T, z, A, none, 0, aw, _, fR, hR, E, (SR.nil : SR a3 (.slice none 0 0) ([] : List Int)), Z, (agC rfl (agC rfl agN)), (by first | omega | exact ⟨by omega, by omega⟩), (by first | omega | (simp; omega)), (by exact fun m hm => by first | exact da (J m hm) | exact da (fun y hy => J m hm y (List.mem_of_mem_take hy)) | exact aR (J m hm) (Nat.le_succ_of_le (aQ (aC (J m hm)))) | exact aR (J m hm) (bn (aQ (aC (J m hm)))))⟩
     ·
      try simp only [BS] at ki
      refine wR 1 [] 89 91 [] [(89, (.bool (V == 2)))] trivial rfl fun _ => ?_
      refine ak 0 1 (v := (V == 2)) rfl rfl rfl rfl (fun kl => ?_) (fun kl => ?_)
      ·
       try simp only [BS] at kl
       refine aa ?_
       refine wRo 4 0 [] 92 95 [] [(93, (iI (N - 2))), (95, (.pointer (some ⟨sB (.slice z hv.length A), sO (.slice z hv.length A) + ii * Rp.sz BlkH + 1, none⟩)))] trivial rfl fun _ => ?_
       have n8 := SF.put (⟨(hv.getD ii default).h, N - 2, (hv.getD ii default).reg, (hv.getD ii default).tgt, (hv.getD ii default).els⟩ : BlkH) Z (i := ii) rfl
       refine aM (du (α := BlkH) (j := ii) (off := 1) (q := 4) (⟨(hv.getD ii default).h, N - 2, (hv.getD ii default).reg, (hv.getD ii default).tgt, (hv.getD ii default).els⟩ : BlkH) E Y rfl rfl rfl rfl rfl rfl rfl rfl (aS (x := default) (by omega)) rfl (by rintro cs ⟨rfl, ay, a0, a1, a2⟩; exact ⟨Nat.le_of_ble_eq_true rfl, ⟨rfl, by first | omega | (dsimp only; omega), a0, a1, a2⟩⟩)) rfl ?_
       rintro _ qC nE ⟨mF, hS, _⟩
       have hS : HS _ _ _ [_, _, _, _, nE, _, _, _] _ := hS
       have pu := OS.len' mF
       refine ae 0 rfl ?_
       exact ax _ _ ⟨hv.set ii (⟨(hv.getD ii default).h, N - 2, (hv.getD ii default).reg, (hv.getD ii default).tgt, (hv.getD ii default).els⟩ : BlkH), lv, c.params, c.regs, 0, 0, 0, 0, 0, ([] : List Int), nE, z, A, none, 0, aw, _, fR, (by simpa only [List.length_set, List.length_nil] using hS), (OS.norm mF), (SR.nil : SR a3 (.slice none 0 0) ([] : List Int)), n8, (agC rfl (agC rfl agN)), (by first | omega | exact ⟨by omega, by omega⟩), (by first | omega | (simp; omega)), (by exact fun m hm => by first | exact da (J m hm) | exact da (fun y hy => J m hm y (List.mem_of_mem_take hy)) | exact aR (J m hm) (Nat.le_succ_of_le (aQ (aC (J m hm)))) | exact aR (J m hm) (bn (aQ (aC (J m hm)))))⟩
      ·
       try simp only [BS] at kl
       refine wR 1 [] 96 98 [] [(96, (.bool (V == 3)))] trivial rfl fun _ => ?_
       refine ak 0 1 (v := (V == 3)) rfl rfl rfl rfl (fun kn => ?_) (fun kn => ?_)
       ·
        try simp only [BS] at kn
        refine aa ?_
        refine wRo 4 0 [] 99 102 [] [(100, (iI (N - 2))), (102, (.pointer (some ⟨sB (.slice z hv.length A), sO (.slice z hv.length A) + ii * Rp.sz BlkH + 2, none⟩)))] trivial rfl fun _ => ?_
        have n9 := SF.put (⟨(hv.getD ii default).h, (hv.getD ii default).fin, N - 2, (hv.getD ii default).tgt, (hv.getD ii default).els⟩ : BlkH) Z (i := ii) rfl
        refine aM (du (α := BlkH) (j := ii) (off := 2) (q := 4) (⟨(hv.getD ii default).h, (hv.getD ii default).fin, N - 2, (hv.getD ii default).tgt, (hv.getD ii default).els⟩ : BlkH) E Y rfl rfl rfl rfl rfl rfl rfl rfl (aS (x := default) (by omega)) rfl (by rintro cs ⟨rfl, ay, a0, a1, a2⟩; exact ⟨Nat.le_of_ble_eq_true rfl, ⟨rfl, ay, by first | omega | (dsimp only; omega), a1, a2⟩⟩)) rfl ?_
        rintro _ qD nF ⟨mG, hV, _⟩
        have hV : HS _ _ _ [_, _, _, _, nF, _, _, _] _ := hV
        have pw := OS.len' mG
        refine ae 0 rfl ?_
        exact ax _ _ ⟨hv.set ii (⟨(hv.getD ii default).h, (hv.getD ii default).fin, N - 2, (hv.getD ii default).tgt, (hv.getD ii default).els⟩ : BlkH), lv, c.params, c.regs, 0, 0, 0, 0, 0, ([] : List Int), nF, z, A, none, 0, aw, _, fR, (by simpa only [List.length_set, List.length_nil] using hV), (OS.norm mG), (SR.nil : SR a3 (.slice none 0 0) ([] : List Int)), n9, (agC rfl (agC rfl agN)), (by first | omega | exact ⟨by omega, by omega⟩), (by first | omega | (simp; omega)), (by exact fun m hm => by first | exact da (J m hm) | exact da (fun y hy => J m hm y (List.mem_of_mem_take hy)) | exact aR (J m hm) (Nat.le_succ_of_le (aQ (aC (J m hm)))) | exact aR (J m hm) (bn (aQ (aC (J m hm)))))⟩
       ·
        try simp only [BS] at kn
        refine wR 1 [] 103 105 [] [(103, (.bool (V == 4)))] trivial rfl fun _ => ?_
        refine ak 0 1 (v := (V == 4)) rfl rfl rfl rfl (fun kr => ?_) (fun kr => ?_)
        ·
         try simp only [BS] at kr
         refine aa ?_
         refine wRo 4 0 [] 106 109 [] [(107, (iI (N - 2))), (109, (.pointer (some ⟨sB (.slice z hv.length A), sO (.slice z hv.length A) + ii * Rp.sz BlkH + 3, none⟩)))] trivial rfl fun _ => ?_
         have oa := SF.put (⟨(hv.getD ii default).h, (hv.getD ii default).fin, (hv.getD ii default).reg, N - 2, (hv.getD ii default).els⟩ : BlkH) Z (i := ii) rfl
         refine aM (du (α := BlkH) (j := ii) (off := 3) (q := 4) (⟨(hv.getD ii default).h, (hv.getD ii default).fin, (hv.getD ii default).reg, N - 2, (hv.getD ii default).els⟩ : BlkH) E Y rfl rfl rfl rfl rfl rfl rfl rfl (aS (x := default) (by omega)) rfl (by rintro cs ⟨rfl, ay, a0, a1, a2⟩; exact ⟨Nat.le_of_ble_eq_true rfl, ⟨rfl, ay, a0, by first | omega | (dsimp only; omega), a2⟩⟩)) rfl ?_
         rintro _ qE nG ⟨mH, hW, _⟩
         have hW : HS _ _ _ [_, _, _, _, nG, _, _, _] _ := hW
         have px := OS.len' mH
         refine ae 0 rfl ?_
         exact ax _ _ ⟨hv.set ii (⟨(hv.getD ii default).h, (hv.getD ii default).fin, (hv.getD ii default).reg, N - 2, (hv.getD ii default).els⟩ : BlkH), lv, c.params, c.regs, 0, 0, 0, 0, 0, ([] : List Int), nG, z, A, none, 0, aw, _, fR, (by simpa only [List.length_set, List.length_nil] using hW), (OS.norm mH), (SR.nil : SR a3 (.slice none 0 0) ([] : List Int)), oa, (agC rfl (agC rfl agN)), (by first | omega | exact ⟨by omega, by omega⟩), (by first | omega | (simp; omega)), (by exact fun m hm => by first | exact da (J m hm) | exact da (fun y hy => J m hm y (List.mem_of_mem_take hy)) | exact aR (J m hm) (Nat.le_succ_of_le (aQ (aC (J m hm)))) | exact aR (J m hm) (bn (aQ (aC (J m hm)))))⟩
        ·
         try simp only [BS] at kr
         refine wR 1 [] 110 112 [] [(110, (.bool (V == 5)))] trivial rfl fun _ => ?_
         refine ak 0 1 (v := (V == 5)) rfl rfl rfl rfl (fun kt => ?_) (fun kt => ?_)
         ·
          try simp only [BS] at kt
          refine aa ?_
          refine wRo 4 0 [] 113 116 [] [(114, (iI (N - 2))), (116, (.pointer (some ⟨sB (.slice z hv.length A), sO (.slice z hv.length A) + ii * Rp.sz BlkH + 4, none⟩)))] trivial rfl fun _ => ?_
          have ob := SF.put (⟨(hv.getD ii default).h, (hv.getD ii default).fin, (hv.getD ii default).reg, (hv.getD ii default).tgt, N - 2⟩ : BlkH) Z (i := ii) rfl
          refine aM (du (α := BlkH) (j := ii) (off := 4) (q := 4) (⟨(hv.getD ii default).h, (hv.getD ii default).fin, (hv.getD ii default).reg, (hv.getD ii default).tgt, N - 2⟩ : BlkH) E Y rfl rfl rfl rfl rfl rfl rfl rfl (aS (x := default) (by omega)) rfl (by rintro cs ⟨rfl, ay, a0, a1, a2⟩; exact ⟨Nat.le_of_ble_eq_true rfl, ⟨rfl, ay, a0, a1, by first | omega | (dsimp only; omega)⟩⟩)) rfl ?_
          rintro _ qF nH ⟨mI, hX, _⟩
          have hX : HS _ _ _ [_, _, _, _, nH, _, _, _] _ := hX
          have py := OS.len' mI
          refine ae 0 rfl ?_
          exact ax _ _ ⟨hv.set ii (⟨(hv.getD ii default).h, (hv.getD ii default).fin, (hv.getD ii default).reg, (hv.getD ii default).tgt, N - 2⟩ : BlkH), lv, c.params, c.regs, 0, 0, 0, 0, 0, ([] : List Int), nH, z, A, none, 0, aw, _, fR, (by simpa only [List.length_set, List.length_nil] using hX), (OS.norm mI), (SR.nil : SR a3 (.slice none 0 0) ([] : List Int)), ob, (agC rfl (agC rfl agN)), (by first | omega | exact ⟨by omega, by omega⟩), (by first | omega | (simp; omega)), (by exact fun m hm => by first | exact da (J m hm) | exact da (fun y hy => J m hm y (List.mem_of_mem_take hy)) | exact aR (J m hm) (Nat.le_succ_of_le (aQ (aC (J m hm)))) | exact aR (J m hm) (bn (aQ (aC (J m hm)))))⟩
         ·
          try simp only [BS] at kt
          refine wR 1 [] 117 119 [] [(117, (.bool (V == 6)))] trivial rfl fun _ => ?_
          refine ak 0 1 (v := (V == 6)) rfl rfl rfl rfl (fun kx => ?_) (fun kx => ?_)
          ·
           try simp only [BS] at kx
           refine aa ?_
           refine wRo 5 0 [] 120 124 [] [(121, (iI (N - 2))), (124, (.pointer (some ⟨av, 0, none⟩)))] trivial rfl fun _ => ?_
           refine aM (aD (q := 7) Y rfl rfl rfl rfl rfl rfl rfl rfl rfl) rfl ?_
           rintro _ qG _ ⟨hY, _⟩
           have hY : HS _ _ _ [_, _, _, _, _, _, _, [(av, .cells [(iI (N - 2)), (iI 0), (iI 0), (iI 0), (iI 0), (.slice none 0 0)] none false)]] _ := hY
           refine ae 0 rfl ?_
           exact ax _ _ ⟨hv, lv, c.params, c.regs, N - 2, 0, 0, 0, 0, ([] : List Int), T, z, A, none, 0, aw, _, fR, hY, E, (SR.nil : SR a3 (.slice none 0 0) ([] : List Int)), Z, (agC rfl (agC rfl agN)), (by first | omega | exact ⟨by omega, by omega⟩), (by first | omega | (simp; omega)), (by exact fun m hm => by first | exact da (J m hm) | exact da (fun y hy => J m hm y (List.mem_of_mem_take hy)) | exact aR (J m hm) (Nat.le_succ_of_le (aQ (aC (J m hm)))) | exact aR (J m hm) (bn (aQ (aC (J m hm)))))⟩
          ·
           try simp only [BS] at kx
           refine wR 1 [] 125 127 [] [(125, (.bool (V == 7)))] trivial rfl fun _ => ?_
           refine ak 0 1 (v := (V == 7)) rfl rfl rfl rfl (fun ky => ?_) (fun ky => ?_)
           ·
            try simp only [BS] at ky
            refine aa ?_
            refine wRo 5 0 [] 128 132 [] [(129, (iI (N - 2))), (132, (.pointer (some ⟨av, 1, none⟩)))] trivial rfl fun _ => ?_
            refine aM (aD (q := 7) Y rfl rfl rfl rfl rfl rfl rfl rfl rfl) rfl ?_
            rintro _ qH _ ⟨h1, _⟩
            have h1 : HS _ _ _ [_, _, _, _, _, _, _, [(av, .cells [(iI 0), (iI (N - 2)), (iI 0), (iI 0), (iI 0), (.slice none 0 0)] none false)]] _ := h1
            refine ae 0 rfl ?_
            exact ax _ _ ⟨hv, lv, c.params, c.regs, 0, N - 2, 0, 0, 0, ([] : List Int), T, z, A, none, 0, aw, _, fR, h1, E, (SR.nil : SR a3 (.slice none 0 0) ([] : List Int)), Z, (agC rfl (agC rfl agN)), (by first | omega | exact ⟨by omega, by omega⟩), (by first | omega | (simp; omega)), (by exact fun m hm => by first | exact da (J m hm) | exact da (fun y hy => J m hm y (List.mem_of_mem_take hy)) | exact aR (J m hm) (Nat.le_succ_of_le (aQ (aC (J m hm)))) | exact aR (J m hm) (bn (aQ (aC (J m hm)))))⟩
           ·
            try simp only [BS] at ky
            refine wR 1 [] 133 135 [] [(133, (.bool (V == 8)))] trivial rfl fun _ => ?_
            refine ak 0 1 (v := (V == 8)) rfl rfl rfl rfl (fun kz => ?_) (fun kz => ?_)
            ·
             try simp only [BS] at kz
             refine aa ?_
             refine wRo 5 0 [] 136 140 [] [(137, (iI (N - 2))), (140, (.pointer (some ⟨av, 2, none⟩)))] trivial rfl fun _ => ?_
             refine aM (aD (q := 7) Y rfl rfl rfl rfl rfl rfl rfl rfl rfl) rfl ?_
             rintro _ qI _ ⟨h2, _⟩
             have h2 : HS _ _ _ [_, _, _, _, _, _, _, [(av, .cells [(iI 0), (iI 0), (iI (N - 2)), (iI 0), (iI 0), (.slice none 0 0)] none false)]] _ := h2
             refine ae 0 rfl ?_
             exact ax _ _ ⟨hv, lv, c.params, c.regs, 0, 0, N - 2, 0, 0, ([] : List Int), T, z, A, none, 0, aw, _, fR, h2, E, (SR.nil : SR a3 (.slice none 0 0) ([] : List Int)), Z, (agC rfl (agC rfl agN)), (by first | omega | exact ⟨by omega, by omega⟩), (by first | omega | (simp; omega)), (by exact fun m hm => by first | exact da (J m hm) | exact da (fun y hy => J m hm y (List.mem_of_mem_take hy)) | exact aR (J m hm) (Nat.le_succ_of_le (aQ (aC (J m hm)))) | exact aR (J m hm) (bn (aQ (aC (J m hm)))))⟩
            ·
             try simp only [BS] at kz
             refine wR 1 [] 141 143 [] [(141, (.bool (V == 9)))] trivial rfl fun _ => ?_
             refine ak 0 1 (v := (V == 9)) rfl rfl rfl rfl (fun k0 => ?_) (fun k0 => ?_)
             ·
              try simp only [BS] at k0
              refine aa ?_
              refine wRo 5 0 [] 144 148 [] [(145, (iI (N - 2))), (148, (.pointer (some ⟨av, 3, none⟩)))] trivial rfl fun _ => ?_
              refine aM (aD (q := 7) Y rfl rfl rfl rfl rfl rfl rfl rfl rfl) rfl ?_
              rintro _ qJ _ ⟨h3, _⟩
              have h3 : HS _ _ _ [_, _, _, _, _, _, _, [(av, .cells [(iI 0), (iI 0), (iI 0), (iI (N - 2)), (iI 0), (.slice none 0 0)] none false)]] _ := h3
              refine ae 0 rfl ?_
              exact ax _ _ ⟨hv, lv, c.params, c.regs, 0, 0, 0, N - 2, 0, ([] : List Int), T, z, A, none, 0, aw, _, fR, h3, E, (SR.nil : SR a3 (.slice none 0 0) ([] : List Int)), Z, (agC rfl (agC rfl agN)), (by first | omega | exact ⟨by omega, by omega⟩), (by first | omega | (simp; omega)), (by exact fun m hm => by first | exact da (J m hm) | exact da (fun y hy => J m hm y (List.mem_of_mem_take hy)) | exact aR (J m hm) (Nat.le_succ_of_le (aQ (aC (J m hm)))) | exact aR (J m hm) (bn (aQ (aC (J m hm)))))⟩
             ·
              try simp only [BS] at k0
              refine wR 1 [] 149 151 [] [(149, (.bool (V == 10)))] trivial rfl fun _ => ?_
              refine ak 0 1 (v := (V == 10)) rfl rfl rfl rfl (fun k3 => ?_) (fun k3 => ?_)
              ·
               try simp only [BS] at k3
               refine aa ?_
               refine wRo 2 0 [] 152 153 [] [(152, (.pointer (some ⟨av, 0, none⟩))), (153, (iI (N - 2)))] trivial rfl fun _ => ?_
               refine aA (ah rfl rfl rfl) rfl rfl (m4.word_c ex (N - 2) (1099511627776) (HS.call Y) (by omega) (by omega) hT) ?_
               rintro _ qK ⟨nL, oF, g7, dt, rfl, q5⟩
               replace dt := HS.back Y rfl dt
               have dt : HS _ _ _ [_, _, _, _, _, _, _, _] _ := dt
               replace E := E.mono g7
               replace Z := SF.mono g7 Z
               refine wRo 3 3 [] 155 157 [] [(157, (.pointer (some ⟨av, 4, none⟩)))] trivial rfl fun _ => ?_
               refine aM (aD (q := 7) dt rfl rfl rfl rfl rfl rfl rfl rfl rfl) rfl ?_
               rintro _ qL _ ⟨h5, _⟩
               have h5 : HS _ _ _ [_, _, _, _, _, _, _, [(av, .cells [(iI 0), (iI 0), (iI 0), (iI 0), (iI nL), (.slice none 0 0)] none false)]] _ := h5
               refine ae 0 rfl ?_
               exact ax _ _ ⟨hv, lv, c.params, c.regs, 0, 0, 0, 0, nL, ([] : List Int), T, z, A, none, 0, aw, _, (g7), h5, E, (SR.nil : SR oF (.slice none 0 0) ([] : List Int)), Z, (agC rfl (agC rfl agN)), (by first | omega | exact ⟨by omega, by omega⟩), (by first | omega | (simp; omega)), (by exact fun m hm => by first | exact da (J m hm) | exact da (fun y hy => J m hm y (List.mem_of_mem_take hy)) | exact aR (J m hm) (Nat.le_succ_of_le (aQ (aC (J m hm)))) | exact aR (J m hm) (bn (aQ (aC (J m hm)))))⟩
              ·
               try simp only [BS] at k3
               refine wR 1 [] 158 160 [] [(158, (.bool (V == 11)))] trivial rfl fun _ => ?_
               refine ak 0 1 (v := (V == 11)) rfl rfl rfl rfl (fun k4 => ?_) (fun k4 => ?_)
               ·
                try simp only [BS] at k4
                refine aa ?_
                refine wRo 5 0 [(4, .o (.slice none 0 0))] 161 165 [] [(161, (.pointer (some ⟨av, 0, none⟩))), (165, (.slice none 0 0))] (vA (ql 25 5 (HS.hc Y (i := 7) rfl) rfl rfl) trivial) rfl fun _ => ?_
                have f3 := HS.snoc Y
                have f3 : HS _ _ _ [_, _, _, _, _, _, _, _, []] _ := f3
                refine aF (bW (α := Int) (q := 8) (OS.nil : OS a3 (.slice none 0 0) ([] : List Int) []) f3 rfl rfl rfl (SR.sv (SR.nil : SR a3 _ (([] : List Int))) f3) rfl rfl rfl rfl rfl rfl rfl (by first | omega | (simp only [List.length_append, List.length_cons, List.length_nil]; first | omega | (have hq := aQ (i := kk) (aC (i := ii) e2); omega)))) rfl rfl ?_
                rintro _ qM nI ⟨oI, oZ, rfl, hf, h6, _⟩
                have h6 : HS _ _ _ [_, _, _, _, _, _, _, _, nI] _ := h6
                have hf : OS a3 (.slice oI ([] : List Int).length oZ) ([] : List Int) nI := hf
                refine wm (iI (N - 2)) rfl rfl rfl ?_
                refine aF (bA (α := Int) (ps := [(0, (iI (N - 2)))]) (cells := [(iI (N - 2))]) ([N - 2] : List Int) h6 rfl rfl rfl (by kernel_rfl) ⟨[(iI (N - 2))], [], rfl, ⟨rfl, by first | omega | (dsimp only; omega)⟩, rfl⟩ rfl) rfl rfl ?_
                rintro _ qN o7 ⟨qT, rc, rfl, oe, f4, _⟩
                have f4 : HS _ _ _ [_, _, _, _, _, _, _, _, _, o7] _ := f4
                refine aF (bW (α := Int) (q := 8) hf f4 rfl rfl rfl (OS.sv oe f4 (i := 9) rfl) rfl rfl rfl rfl rfl rfl rfl (by first | omega | (simp only [List.length_append, List.length_cons, List.length_nil]; first | omega | (have hq := aQ (i := kk) (aC (i := ii) e2); omega)))) rfl rfl ?_
                rintro _ qO nJ ⟨i3, lP, rfl, hg, h7, _⟩
                have h7 : HS _ _ _ [_, _, _, _, _, _, _, _, nJ, _] _ := h7
                have hg : OS a3 (.slice i3 ([N - 2] : List Int).length lP) ([N - 2] : List Int) nJ := hg
                refine wRo 2 9 [] 170 171 [] [(171, (.pointer (some ⟨av, 5, none⟩)))] trivial rfl fun _ => ?_
                refine aM (aD (q := 7) h7 rfl rfl rfl rfl rfl rfl rfl rfl rfl) rfl ?_
                rintro _ qP _ ⟨h8, _⟩
                have h8 : HS _ _ _ [_, _, _, _, _, _, _, [(av, .cells [(iI 0), (iI 0), (iI 0), (iI 0), (iI 0), (.slice i3 ([N - 2] : List Int).length lP)] none false)], _, _] _ := h8
                refine ae 0 rfl ?_
                obtain ⟨qg, g8, h9, ol, p3⟩ := OS.frz hg h8 (i := 8) rfl
                have h9 : HS _ _ _ [_, _, _, _, _, _, _, _, [], _] _ := h9
                replace E := E.mono g8
                replace Z := SF.mono g8 Z
                exact ax _ _ ⟨hv, lv, c.params, c.regs, 0, 0, 0, 0, 0, ([N - 2] : List Int), T, z, A, i3, lP, aw, _, (g8), (HS.sub h9 (List.sublist_append_left _ _)), E, ol, Z, (agC rfl (agC rfl agN)), (by first | omega | exact ⟨by omega, by omega⟩), (by first | omega | (simp; omega)), (by exact fun m hm => by first | exact da (J m hm) | exact da (fun y hy => J m hm y (List.mem_of_mem_take hy)) | exact aR (J m hm) (Nat.le_succ_of_le (aQ (aC (J m hm)))) | exact aR (J m hm) (bn (aQ (aC (J m hm)))))⟩
               ·
                try simp only [BS] at k4
                refine wR 1 [] 172 174 [] [(172, (.bool (V == 12)))] trivial rfl fun _ => ?_
                refine ak 0 0 (v := (V == 12)) rfl rfl rfl rfl (fun k5 => ?_) (fun k5 => ?_)
                ·
                 try simp only [BS] at k5
                 refine aa ?_
                 refine wRo 8 0 [(1, .o (.slice z hv.length A)), (4, .o (.slice z hv.length A))] 175 182 [] [(176, (.slice z hv.length A)), (182, (iI (if (if (hv.length : Int) < N - 2 then (hv.length : Int) else N - 2) > (0 : Int) then (if (hv.length : Int) < N - 2 then (hv.length : Int) else N - 2) else (0 : Int))))] (vA (ql 22 2 (HS.hc Y (i := 3) rfl) rfl rfl) (vA (ql 22 2 (HS.hc Y (i := 3) rfl) rfl rfl) trivial)) rfl fun _ => ?_
                 refine aF (rs_cutOt (α := BlkH) (j := (if (if (hv.length : Int) < N - 2 then (hv.length : Int) else N - 2) > (0 : Int) then (if (hv.length : Int) < N - 2 then (hv.length : Int) else N - 2) else (0 : Int)).toNat) E Y (q := 4) rfl rfl rfl rfl (optN (by omega)) (by omega)) rfl rfl ?_
                 rintro _ _ _ ⟨mP, nB, rfl, et, oh⟩
                 simp only at et; replace et := et.symm; subst et
                 obtain ⟨l7, nY, nR, mz⟩ := FAM.take (if (if (hv.length : Int) < N - 2 then (hv.length : Int) else N - 2) > (0 : Int) then (if (hv.length : Int) < N - 2 then (hv.length : Int) else N - 2) else (0 : Int)).toNat Z
                 have ib := HS.open Y (i := 5) rfl (List.Perm.of_eq nR)
                 have ib : HS _ _ _ [_, _, _, _, _, l7, _, _, nY] _ := ib
                 have pJ := FAM.len mz
                 refine wRo 1 9 [] 184 184 [] [(184, (.pointer (some ⟨b9, 2, none⟩)))] trivial rfl fun _ => ?_
                 refine aM (aD (q := 3) ib rfl rfl rfl rfl rfl rfl rfl rfl rfl) rfl ?_
                 rintro _ qQ _ ⟨ik, _⟩
                 have ik : HS _ _ _ [_, _, _, [(b9, .cells [(iI c.params), (iI c.regs), (.slice mP (hv.take (if (if (hv.length : Int) < N - 2 then (hv.length : Int) else N - 2) > (0 : Int) then (if (hv.length : Int) < N - 2 then (hv.length : Int) else N - 2) else (0 : Int)).toNat).length nB)] none false)], _, _, _, _, _] _ := ik
                 refine ae 0 rfl ?_
                 exact ax _ _ ⟨hv.take (if (if (hv.length : Int) < N - 2 then (hv.length : Int) else N - 2) > (0 : Int) then (if (hv.length : Int) < N - 2 then (hv.length : Int) else N - 2) else (0 : Int)).toNat, lv.take (if (if (hv.length : Int) < N - 2 then (hv.length : Int) else N - 2) > (0 : Int) then (if (hv.length : Int) < N - 2 then (hv.length : Int) else N - 2) else (0 : Int)).toNat, c.params, c.regs, 0, 0, 0, 0, 0, ([] : List Int), T, mP, nB, none, 0, l7, _, fR, (HS.sub ik (List.sublist_append_left _ _)), oh, (SR.nil : SR a3 (.slice none 0 0) ([] : List Int)), mz, (agC rfl (agC rfl agN)), (by first | omega | exact ⟨by omega, by omega⟩), (by first | omega | (simp; omega)), (by exact fun m hm => by first | exact da (J m hm) | exact da (fun y hy => J m hm y (List.mem_of_mem_take hy)) | exact aR (J m hm) (Nat.le_succ_of_le (aQ (aC (J m hm)))) | exact aR (J m hm) (bn (aQ (aC (J m hm)))))⟩
                ·
                 try simp only [BS] at k5
                 exact ax _ _ ⟨hv, lv, c.params, c.regs, 0, 0, 0, 0, 0, ([] : List Int), T, z, A, none, 0, aw, _, fR, Y, E, (SR.nil : SR a3 (.slice none 0 0) ([] : List Int)), Z, (agC rfl (agC rfl agN)), (by first | omega | exact ⟨by omega, by omega⟩), (by first | omega | (simp; omega)), (by exact fun m hm => by first | exact da (J m hm) | exact da (fun y hy => J m hm y (List.mem_of_mem_take hy)) | exact aR (J m hm) (Nat.le_succ_of_le (aQ (aC (J m hm)))) | exact aR (J m hm) (bn (aQ (aC (J m hm)))))⟩
   ·
    rintro qW qz ⟨a6, d2, pq, rq, mR, mS, mT, mU, mV, bva, bl, an, ar, bb, bk, co, qf, n5, mL, b5, ot, g4, my, j0, j1, j2⟩
    refine au _ my (fun _ => ?_)
    clear my
    have oJ := FAM.len g4
    refine aj 3 rfl ?_
    refine aa ?_
    let nP : Value := (.agg ⟨[(iI pq), (iI rq), (.slice an a6.length ar)]⟩)
    refine wRo 1 0 [(0, .o nP)] 185 185 [] [(185, nP)] (vA (qn 24 0 3 (HS.hc mL (i := 3) rfl) rfl rfl rfl rfl) trivial) rfl fun _ => ?_
    refine aM (aD (q := 1) mL rfl rfl rfl rfl rfl rfl rfl rfl rfl) rfl ?_
    rintro _ qR _ ⟨il, _⟩
    have il : HS _ _ _ [_, [(b3, .cells [(iI pq), (iI rq), (.slice an a6.length ar)] none false)], _, [(b9, .cells [(iI pq), (iI rq), (.slice an a6.length ar)] none false)], bl, co, _, [(av, .cells [(iI mR), (iI mS), (iI mT), (iI mU), (iI mV), (.slice bb bva.length bk)] none false)]] _ := il
    refine ae 1 rfl ?_
    obtain ⟨qh, mk, it, n7⟩ := SF.freeze g4 il (q := 5) rfl
    have it : HS _ _ _ [_, _, _, _, _, [], _, _] _ := it
    replace b5 := b5.mono mk
    obtain ⟨qi, mn, f5, om, p4⟩ := OS.frz b5 it (i := 4) rfl
    have f5 : HS _ _ _ [_, _, _, _, [], _, _, _] _ := f5
    have mK := blkH_rows om (by omega) (fun i hi => SR.mono mn (n7 i hi))
    have oq := SR.len' mK
    have nu := SR.norm mK
    refine ag ⟨.inr rfl, _, (rC rfl (ldVN rfl rfl (HS.hc f5 (i := 1) rfl) rfl) rN), (⟨pq, rq, (blkZ a6 d2)⟩ : VFnT), an, ar, _, (fT (fT (fT (fT (fT (f7) dk) dl) n5) mk) mn), (HS.forget f5), (by simp only [oq]; rfl), (by first | omega | (dsimp only; omega)), (by first | omega | (dsimp only; omega)), nu, (by exact Nat.le_trans blkZ_len j1), (by exact fun m hm => blkZ_ok (j2 m hm))⟩
end Go.Proofs.YtlabedbmgmfbaaaDoor.m9
