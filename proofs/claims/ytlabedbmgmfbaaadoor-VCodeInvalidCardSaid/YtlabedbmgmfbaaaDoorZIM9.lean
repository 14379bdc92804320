/-
 The generator that changes one detail of a function: what it makes is some function of bounded size. No condition but bounds on lengths.
-/
import Derived.Test.YtlabedbmgmfbaaaDoorZIM6
import Derived.Test.YtlabedbmgmfbaaaDoorZIRD
noncomputable section
namespace Go.Proofs.YtlabedbmgmfbaaaDoor.m9
open Go.R
set_option maxRecDepth 10000
set_option linter.unusedVariables false
open m1 m2 m3 m4 m5 m6
structure BlkH where
 h : Hd
 fin : Int
 reg : Int
 tgt : Int
 els : Int
 deriving Inhabited
instance : Rp BlkH where
 sz := 5
 rep F cs x := cs = [.slice x.h.a x.h.n x.h.k, .int .i64 x.fin, .int .i64 x.reg, .int .i64 x.tgt, .int .i64 x.els] ∧ in64 x.fin ∧ in64 x.reg ∧ in64 x.tgt ∧ in64 x.els
 len := by rintro F cs x ⟨rfl, _⟩; rfl
 one := by rintro F cs x ⟨rfl, _⟩; rfl
 mono := by intro F F' cs x _ h; exact h
theorem BlkH.vw {F : Fz} {get : Nat → Option AObj} {v : Value} {cf : Nat → List Value} {j : Nat} {l : List BlkH} (h : VW F get v l cf j) (hj : j < l.length) : HC get (sB v) (sO v + j * Rp.sz BlkH) [.slice (l.getD j default).h.a (l.getD j default).h.n (l.getD j default).h.k, .int .i64 (l.getD j default).fin, .int .i64 (l.getD j default).reg, .int .i64 (l.getD j default).tgt, .int .i64 (l.getD j default).els] := by
 obtain ⟨⟨A, _⟩, z⟩ := h.1 default hj
 rw [show cf j = _ from A] at z; exact z
theorem BlkH.fx {F : Fz} {get : Nat → Option AObj} {v : Value} {cf : Nat → List Value} {j : Nat} {l : List BlkH} (h : VW F get v l cf j) : in64 (l.getD j default).fin ∧ in64 (l.getD j default).reg ∧ in64 (l.getD j default).tgt ∧ in64 (l.getD j default).els := by
 rcases Nat.lt_or_ge j l.length with hj | hj
 ·
  obtain ⟨⟨I, h0, z, A, E⟩, _⟩ := h.1 default hj
  exact ⟨h0, z, A, E⟩
 ·
  rw [dU hj]; exact ⟨by decide, by decide, by decide, by decide⟩
instance : HasHd BlkH := ⟨fun h => h.h⟩
def blkZ (hs : List BlkH) (ls : List (List VInT)) : List BlkT := List.zipWith (fun h l => ⟨l, h.fin, h.reg, h.tgt, h.els⟩) hs ls
theorem blkH_rows {F : Fz} {v : Value} {hs : List BlkH} {ls : List (List VInT)} (h : SR F v hs) (hl : hs.length ≤ ls.length) (k : ∀ i, i < ls.length → SR F (HasHd.hd (hs.getD i default)).v (ls.getD i [])) : SR F v (blkZ hs ls) := by
 refine SR.conv (α := BlkH) (β := BlkT) rfl h (by unfold blkZ; rw [List.length_zipWith]; omega) F.le_refl fun i x y hx hy c hc => ?_
 have hi := (List.getElem?_eq_some_iff.1 hx).1
 have k1 := k i (by omega)
 have z : hs.getD i default = x := by rw [List.getD_eq_getElem?_getD, hx]; rfl
 have A : ls[i]? = some (ls.getD i []) := aI (by omega)
 rw [z] at k1
 have hn := SR.n (h := x.h) k1
 unfold blkZ at hy
 rw [List.getElem?_zipWith, hx, A] at hy
 obtain rfl := (Option.some.inj hy)
 obtain ⟨rfl, E, I, J, O⟩ := hc
 exact ⟨x.h.a, x.h.k, by rw [← hn], E, I, J, O, by rw [← hn]; exact k1⟩
def okI (m : Nat) (y : List VInT) : Prop := y.length ≤ 1000 ∧ ∀ z ∈ y, z.args.length ≤ m
theorem ok_snoc {m : Nat} {l : List (List VInT)} {x : List VInT} (h : ∀ y ∈ l, okI m y) (hx : okI m x) : ∀ y ∈ l ++ [x], okI m y := fun y hy => by
 rcases List.mem_append.1 hy with hy | hy
 ·
  exact h y hy
 ·
  rw [List.mem_singleton] at hy; rw [hy]; exact hx
theorem dg {m i : Nat} {l : List (List VInT)} (h : ∀ y ∈ l, okI m y) : okI m (l.getD i default) := by
 rw [List.getD_eq_getElem?_getD]
 rcases hi : l[i]? with _ | y
 ·
  exact ⟨Nat.zero_le _, fun z hz => by cases hz⟩
 ·
  exact h y (List.mem_of_getElem? hi)
theorem eM {m i : Nat} {y : List VInT} (h : okI m y) : (y.getD i default).args.length ≤ m := by
 rw [List.getD_eq_getElem?_getD]
 rcases hi : y[i]? with _ | z
 ·
  exact Nat.zero_le _
 ·
  exact h.2 z (List.mem_of_getElem? hi)
theorem jk {m : Nat} {l : List (List VInT)} (h : ∀ y ∈ l, okI m y) : ∀ y ∈ l, okI (m + 1) y := fun y hy => ⟨(h y hy).1, fun z hz => Nat.le_succ_of_le ((h y hy).2 z hz)⟩
theorem gZ {m ii i : Nat} {l : List (List VInT)} {z : VInT} (h : ∀ y ∈ l, okI m y) (hz : z.args.length ≤ m + 1) : ∀ y ∈ l.set ii ((l.getD ii default).set i z), okI (m + 1) y := fun y hy => by
 rcases List.mem_or_eq_of_mem_set hy with hy | hy
 ·
  exact jk h y hy
 ·
  subst hy
  have A := dg (i := ii) h
  refine ⟨by rw [List.length_set]; exact A.1, fun w hw => ?_⟩
  rcases List.mem_or_eq_of_mem_set hw with hw | hw
  ·
   exact Nat.le_succ_of_le (A.2 w hw)
  ·
   subst hw; exact hz
theorem ok_more {m : Nat} {l : List Int} {n : Int} (h : l.length ≤ m) : (l ++ ([n] : List Int)).length ≤ m + 1 := by simp; omega
theorem blkZ_ok {m : Nat} {hs : List BlkH} {ls : List (List VInT)} (h : ∀ y ∈ ls, okI m y) (j : Nat) : okI m ((blkZ hs ls).getD j default).ins := by
 unfold blkZ
 rw [List.getD_eq_getElem?_getD, List.getElem?_zipWith]
 cases hs[j]? with
 | none => exact ⟨Nat.zero_le _, fun z hz => by cases hz⟩
 | some x =>
  cases hl : ls[j]? with
  | none => exact ⟨Nat.zero_le _, fun z hz => by cases hz⟩
  | some y => exact h y (List.mem_of_getElem? hl)
theorem blkZ_len {hs : List BlkH} {ls : List (List VInT)} : (blkZ hs ls).length ≤ hs.length := by unfold blkZ; rw [List.length_zipWith]; omega
set_option maxHeartbeats 2000000 in
theorem mut_c (ex : FuncId) {g4 : Option Addr} {he : Nat} (c : VFnT) (how : Int) (at_ : Int) {F : Fz} {H : Heap} {R : List Fp} (hs : HS (.of H []) F H [] R) (q2 : in64 c.params) (q3 : in64 c.regs) (hn : SR F (.slice g4 c.blocks.length he) c.blocks) (hhow : in64 how) (hat_ : in64 at_) (hT : TB 37 tabC F) (hb : 1 ≤ c.blocks.length ∧ c.blocks.length ≤ 1000) (hi : ∀ j, okI 7 (c.blocks.getD j default).ins) : C Tryd.prog 1 (KT 60 ex 37 tabC) 18 [(.agg ⟨[(iI c.params), (iI c.regs), (.slice g4 c.blocks.length he)]⟩), (iI how), (iI at_)] H fun v H' => ∃ (x : VFnT) (mE : Option Addr) (nu : Nat) (F' : Fz), Fz.le F F' ∧ HS (.of H []) F' H' [] R ∧ v = .agg ⟨[.int .i64 x.params, .int .i64 x.regs, .slice mE x.blocks.length nu]⟩ ∧ in64 x.params ∧ in64 x.regs ∧ SR F' (.slice mE x.blocks.length nu) x.blocks ∧ (x.blocks.length ≤ 1000) ∧ (∀ m, (∀ j, okI m (c.blocks.getD j default).ins) → ∀ j, okI (m + 1) (x.blocks.getD j default).ins) := by
 refine aJ Tryd.func18 rfl rfl ?_
 refine ao 1 rfl ?_
 refine ab ?_
 refine aP (b8 hs rfl rfl) rfl rfl ?_
 rintro _ H2 _ ⟨b1, rfl, nm, _⟩
 let hh : Fp := [(b1, .cells [(iI c.params), (iI c.regs), (.slice g4 c.blocks.length he)] none false)]
 have nm : HS _ _ _ [hh] _ := nm
 refine aP (bp nm rfl) rfl rfl ?_
 rintro _ H4 _ ⟨b3, rfl, nn, _⟩
 let hj : Fp := [(b3, .cells [(iI 0), (iI 0), (.slice none 0 0)] none false)]
 have nn : HS _ _ _ [_, hj] _ := nn
 refine ai 2 rfl ?_
 refine ab ?_
 refine wRo 2 0 [] 15 16 [] [(16, (.agg ⟨[(iI how)]⟩))] trivial rfl fun _ => ?_
 refine aP (b8 nn rfl rfl) rfl rfl ?_
 rintro _ H7 _ ⟨b6, rfl, kp, _⟩
 have kp : HS _ _ _ [_, _, [(b6, .cells [(iI how)] none false)]] _ := kp
 refine wa (.pointer (some ⟨b6, 0, none⟩)) rfl rfl rfl ?_
 refine ai 2 rfl ?_
 refine ab ?_
 refine wRo 5 0 [(1, .o (iI c.params)), (3, .o (iI c.regs))] 18 22 [] [(22, (.agg ⟨[(iI c.params), (iI c.regs), (.slice none 0 0)]⟩))] (vA (ql 3 0 (HS.hc kp (i := 0) rfl) rfl rfl) (vA (ql 3 1 (HS.hc kp (i := 0) rfl) rfl rfl) trivial)) rfl fun _ => ?_
 refine aP (bp kp rfl) rfl rfl ?_
 rintro _ rh _ ⟨b9, rfl, lx, _⟩
 have lx : HS _ _ _ [_, _, _, [(b9, .cells [(iI 0), (iI 0), (.slice none 0 0)] none false)]] _ := lx
 refine aD (ax (q := 3) lx rfl rfl rfl rfl rfl rfl rfl rfl rfl) rfl ?_
 rintro _ ri _ ⟨ly, _⟩
 have ly : HS _ _ _ [_, _, _, [(b9, .cells [(iI c.params), (iI c.regs), (.slice none 0 0)] none false)]] _ := ly
 refine ai 3 rfl ?_
 refine wR 2 [] 1 0 [9] [(9, (iI 0))] trivial rfl fun _ => ?_
 have lz := HS.snoc ly
 have lz : HS _ _ _ [_, _, _, _, []] _ := lz
 have lA := HS.snoc lz
 have lA : HS _ _ _ [_, _, _, _, _, []] _ := lA
 have mY : SF F ([] : List BlkH) ([] : List (List VInT)) [] := rfl
 have qT := FAM.len mY
 refine aE (fun (mm : Nat) f H' => ∃ (hv : List BlkH) (lv : List (List VInT)) (b : Nat) (J : Fp) (z : Option Addr) (A : Nat) (eb : Fp) (F' : Fz), Fz.le F F' ∧ HS (Base.of H []) F' H' [hh, hj, [(b6, .cells [(iI how)] none false)], [(b9, .cells [(iI c.params), (iI c.regs), (.slice z hv.length A)] none false)], J, eb] R ∧ OS F' (.slice z hv.length A) hv J ∧ SF F' hv lv eb ∧ aS f [(2, (iI at_)), (3, (.pointer (some ⟨b1, 0, none⟩))), (6, (.pointer (some ⟨b3, 0, none⟩))), (7, (.pointer (some ⟨b6, 0, none⟩))), (8, (.pointer (some ⟨b9, 0, none⟩))), (9, (iI (b : Int)))] ∧ mm = c.blocks.length - b ∧ (hv.length = b) ∧ (∀ y ∈ lv, okI 7 y) ∧ (b ≤ c.blocks.length) ∧ (∀ m, (∀ j, okI m (c.blocks.getD j default).ins) → ∀ y ∈ lv, okI m y)) _ ⟨([] : List BlkH), ([] : List (List VInT)), 0, [], none, 0, [], _, fR, lA, (OS.nil : OS F (.slice none 0 0) ([] : List BlkH) []), mY, ⟨rfl, rfl, rfl, rfl, rfl, rfl, trivial⟩, rfl, (by rfl), (by simp), (by omega), (by simp)⟩ ?_
 rintro q9 rJ oj ⟨hv, lv, b, J, z, A, eb, lR, g5, cd, E, hf, mZ, rfl, e1, e2, e3, e4⟩ oM
 refine aF _ mZ (fun _ => ?_)
 clear mZ
 replace hT := hT.mono g5
 replace hn := hn.mono g5
 have o1 := FAM.len hf
 have hib := (hi b).1
 refine ao 2 rfl ?_
 refine wR 1 [(2, .o (.slice g4 c.blocks.length he))] 23 27 [] [(27, (.bool (decide ((b : Int) < (c.blocks.length : Int)))))] (vA (ql 22 2 (HS.hc cd (i := 0) rfl) rfl rfl) trivial) rfl fun _ => ?_
 refine aj 4 5 (v := (decide ((b : Int) < (c.blocks.length : Int)))) rfl rfl rfl rfl (fun mK => ?_) (fun mK => ?_)
 ·
  try simp only [BS] at mK
  refine ab ?_
  obtain ⟨co, nq⟩ := Sv.view (SR.sv hn cd)
  obtain ⟨pG, pH, pI, pJ, oi⟩ := BlkT.fx (nq b)
  let ox : Value := (.agg ⟨[(.slice (cA (co b) 0) (c.blocks.getD b default).ins.length (cK (co b) 0)), (iI (c.blocks.getD b default).fin), (iI (c.blocks.getD b default).reg), (iI (c.blocks.getD b default).tgt), (iI (c.blocks.getD b default).els)]⟩)
  refine wRo 5 0 [(1, .o (.slice g4 c.blocks.length he)), (4, .o ox)] 30 34 [] [(34, ox)] (vA (ql 22 2 (HS.hc cd (i := 0) rfl) rfl rfl) (vA (Sv.ix (j := (b : Int)) (SR.sv hn cd) (by omega) (by omega)) (vA (qn 42 0 5 (BlkT.vw (nq b) (by omega)) rfl rfl rfl rfl) trivial))) rfl fun _ => ?_
  refine aP (bp cd rfl) rfl rfl ?_
  rintro _ rj _ ⟨lS, rfl, lB, _⟩
  have lB : HS _ _ _ [_, _, _, [(b9, .cells [(iI c.params), (iI c.regs), (.slice z hv.length A)] none false)], J, eb, [(lS, .cells [(.slice none 0 0), (iI 0), (iI 0), (iI 0), (iI 0)] none false)]] _ := lB
  refine aD (ax (q := 6) lB rfl rfl rfl rfl rfl rfl rfl rfl rfl) rfl ?_
  rintro _ rl _ ⟨h9, _⟩
  have h9 : HS _ _ _ [_, _, _, _, _, _, [(lS, .cells [(.slice (cA (co b) 0) (c.blocks.getD b default).ins.length (cK (co b) 0)), (iI (c.blocks.getD b default).fin), (iI (c.blocks.getD b default).reg), (iI (c.blocks.getD b default).tgt), (iI (c.blocks.getD b default).els)] none false)]] _ := h9
  refine ai 2 rfl ?_
  refine ab ?_
  refine wRo 2 0 [(1, .o (.slice (cA (co b) 0) (c.blocks.getD b default).ins.length (cK (co b) 0)))] 35 36 [] [(36, (.slice (cA (co b) 0) (c.blocks.getD b default).ins.length (cK (co b) 0)))] (vA (ql 40 0 (HS.hc h9 (i := 6) rfl) rfl rfl) trivial) rfl fun _ => ?_
  have jb := HS.snoc h9
  have jb : HS _ _ _ [_, _, _, _, _, _, _, []] _ := jb
  refine aP (cT (α := VInT) (q := 7) (OS.nil : OS lR (.slice none 0 0) ([] : List VInT) []) jb rfl rfl rfl (SR.sv oi jb) rfl rfl rfl rfl rfl rfl rfl (by (simp only [List.length_nil]; first | omega | (have hq := eM (i := kk) (dg (i := ii) e2); omega)))) rfl rfl ?_
  rintro _ rm oo ⟨c6, c7, rfl, lw, lC, _⟩
  have lC : HS _ _ _ [_, _, _, _, _, _, _, oo] _ := lC
  have lw : OS lR (.slice c6 (c.blocks.getD b default).ins.length c7) (c.blocks.getD b default).ins oo := lw
  refine wRo 1 3 [] 38 38 [] [(38, (.pointer (some ⟨lS, 0, none⟩)))] trivial rfl fun _ => ?_
  refine aD (ax (q := 6) lC rfl rfl rfl rfl rfl rfl rfl rfl rfl) rfl ?_
  rintro _ rp _ ⟨g9, _⟩
  have g9 : HS _ _ _ [_, _, _, _, _, _, [(lS, .cells [(.slice c6 (c.blocks.getD b default).ins.length c7), (iI (c.blocks.getD b default).fin), (iI (c.blocks.getD b default).reg), (iI (c.blocks.getD b default).tgt), (iI (c.blocks.getD b default).els)] none false)], _] _ := g9
  refine ai 1 rfl ?_
  refine ab ?_
  let lQ : Value := (.agg ⟨[(.slice c6 (c.blocks.getD b default).ins.length c7), (iI (c.blocks.getD b default).fin), (iI (c.blocks.getD b default).reg), (iI (c.blocks.getD b default).tgt), (iI (c.blocks.getD b default).els)]⟩)
  refine wRo 3 0 [(1, .o (.slice z hv.length A)), (2, .o lQ)] 39 41 [] [(40, (.slice z hv.length A)), (41, lQ)] (vA (ql 22 2 (HS.hc g9 (i := 3) rfl) rfl rfl) (vA (qn 42 0 5 (HS.hc g9 (i := 6) rfl) rfl rfl rfl rfl) trivial)) rfl fun _ => ?_
  refine aP (bZ (α := BlkH) (ps := [(0, lQ)]) (cells := [(.slice c6 (c.blocks.getD b default).ins.length c7), (iI (c.blocks.getD b default).fin), (iI (c.blocks.getD b default).reg), (iI (c.blocks.getD b default).tgt), (iI (c.blocks.getD b default).els)]) ([(⟨(⟨c6, (c.blocks.getD b default).ins.length, c7⟩ : Hd), (c.blocks.getD b default).fin, (c.blocks.getD b default).reg, (c.blocks.getD b default).tgt, (c.blocks.getD b default).els⟩ : BlkH)] : List BlkH) g9 rfl rfl rfl (by kernel_rfl) ⟨[(.slice c6 (c.blocks.getD b default).ins.length c7), (iI (c.blocks.getD b default).fin), (iI (c.blocks.getD b default).reg), (iI (c.blocks.getD b default).tgt), (iI (c.blocks.getD b default).els)], [], rfl, ⟨rfl, by omega, by omega, by omega, by omega⟩, rfl⟩ rfl) rfl rfl ?_
  rintro _ rr pu ⟨rI, rO, rfl, oK, kl, _⟩
  have kl : HS _ _ _ [_, _, _, _, _, _, _, _, pu] _ := kl
  refine aP (cT (α := BlkH) (q := 4) E kl rfl rfl rfl (OS.sv oK kl (i := 8) rfl) rfl rfl rfl rfl rfl rfl rfl (by (simp only [List.length_cons, List.length_nil]; first | omega | (have hq := eM (i := kk) (dg (i := ii) e2); omega)))) rfl rfl ?_
  rintro _ rt oq ⟨ol, om, rfl, oL, lD, _⟩
  have lD : HS _ _ _ [_, _, _, _, oq, _, _, _, _] _ := lD
  obtain ⟨lu, lE, ho⟩ := SF.add (⟨(⟨c6, (c.blocks.getD b default).ins.length, c7⟩ : Hd), (c.blocks.getD b default).fin, (c.blocks.getD b default).reg, (c.blocks.getD b default).tgt, (c.blocks.getD b default).els⟩ : BlkH) hf lD (q := 5) (m := 7) (by decide) rfl rfl lw
  have lE : HS _ _ _ [_, _, _, _, _, lu, _, [], _] _ := lE
  have ho : SF lR (hv ++ ([(⟨(⟨c6, (c.blocks.getD b default).ins.length, c7⟩ : Hd), (c.blocks.getD b default).fin, (c.blocks.getD b default).reg, (c.blocks.getD b default).tgt, (c.blocks.getD b default).els⟩ : BlkH)] : List BlkH)) (lv ++ [(c.blocks.getD b default).ins]) lu := ho
  have qU := FAM.len ho
  refine wRo 1 5 [] 44 44 [] [(44, (.pointer (some ⟨b9, 2, none⟩)))] trivial rfl fun _ => ?_
  refine aD (ax (q := 3) lE rfl rfl rfl rfl rfl rfl rfl rfl rfl) rfl ?_
  rintro _ rv _ ⟨lF, _⟩
  have lF : HS _ _ _ [_, _, _, [(b9, .cells [(iI c.params), (iI c.regs), (.slice ol (hv ++ ([(⟨(⟨c6, (c.blocks.getD b default).ins.length, c7⟩ : Hd), (c.blocks.getD b default).fin, (c.blocks.getD b default).reg, (c.blocks.getD b default).tgt, (c.blocks.getD b default).els⟩ : BlkH)] : List BlkH)).length om)] none false)], _, _, _, _, _] _ := lF
  refine ai 2 rfl ?_
  refine wR 1 [] 28 29 [9] [(9, (iI ((b : Int) + 1)))] (vA (vi (n := (b : Int) + 1) (by omega)) trivial) rfl fun _ => ?_
  refine oM _ _ _ ?_ ⟨hv ++ ([(⟨(⟨c6, (c.blocks.getD b default).ins.length, c7⟩ : Hd), (c.blocks.getD b default).fin, (c.blocks.getD b default).reg, (c.blocks.getD b default).tgt, (c.blocks.getD b default).els⟩ : BlkH)] : List BlkH), lv ++ [(c.blocks.getD b default).ins], b + 1, oq, ol, om, lu, _, (g5), (HS.sub lF (List.sublist_append_left _ _)), oL, ho, ⟨rfl, rfl, rfl, rfl, rfl, rfl, trivial⟩, rfl, (by simp; omega), (by exact ok_snoc e2 (hi b)), (by omega), (by exact fun m hm => ok_snoc (e4 m hm) (hm b))⟩
  omega
 ·
  try simp only [BS] at mK
  have qW := dT at_ (hv.length : Int)
  refine wRD 2 [(1, .o (.slice z hv.length A)), (4, .o (.slice z hv.length A)), (6, .o (iI (aQ at_ (hv.length : Int))))] 45 52 [11] [(11, (.pointer (some ⟨sB (.slice z hv.length A), sO (.slice z hv.length A) + (aQ at_ (hv.length : Int)).toNat * Rp.sz BlkH, none⟩)))] (vA (ql 22 2 (hc0 (HS.hc cd (i := 3) rfl)) rfl rfl) (vA (ql 22 2 (hc0 (HS.hc cd (i := 3) rfl)) rfl rfl) (vA (m1.ef ex at_ (hv.length : Int) { oj with log := [] } (by omega)) (vA (Sv.ix (j := aQ at_ (hv.length : Int)) (OS.sv E cd (i := 4) rfl) (by omega) (by omega)) trivial)))) rfl rfl fun _ => ?_
  have hii : (aQ at_ (hv.length : Int)).toNat < hv.length := by omega
  generalize (aQ at_ (hv.length : Int)).toNat = ii at hii ⊢
  refine wR 3 [] 1 0 [12] [(12, (.pointer none))] trivial rfl fun _ => ?_
  obtain ⟨qQ, nr⟩ := Sv.view (OS.sv E cd (i := 4) rfl)
  obtain ⟨pK, pL, pM, pN⟩ := BlkH.fx (nr ii)
  obtain ⟨mW, lr, dn, b7, mX⟩ := SF.open hf cd (q := 5) (i := ii) rfl (by omega)
  let nF : Fp := [(b9, .cells [(iI c.params), (iI c.regs), (.slice z hv.length A)] none false)]
  have dn : HS _ _ _ [hh, hj, [(b6, .cells [(iI how)] none false)], nF, J, mW, lr] _ := dn
  have b7 : OS lR (hv.getD ii default).h.v (lv.getD ii default) lr := b7
  have q7 := OS.nlen b7
  refine wR 1 [(3, .o (hv.getD ii default).h.v)] 53 58 [] [(58, (.bool (decide ((0 : Int) < ((hv.getD ii default).h.n : Int)))))] (vA (ql 40 0 (BlkH.vw (nr ii) (by omega)) rfl rfl) trivial) rfl fun _ => ?_
  refine aj 0 0 (v := (decide ((0 : Int) < ((hv.getD ii default).h.n : Int)))) rfl rfl rfl rfl (fun mL => ?_) (fun mL => ?_)
  ·
   try simp only [BS] at mL
   have hle := (dg (i := ii) e2).1
   obtain ⟨qR, lO⟩ := Sv.view (OS.sv E dn (i := 4) rfl)
   obtain ⟨pO, pP, pQ, pR⟩ := BlkH.fx (lO ii)
   have rc : in64 at_ → in64 (Int.tdiv at_ 7) := fun h => vq h (by decide)
   have qX := dT (Int.tdiv at_ 7) ((hv.getD ii default).h.n : Int)
   refine wRD 2 [(3, .o (hv.getD ii default).h.v), (9, .o (hv.getD ii default).h.v), (11, .o (iI (aQ (Int.tdiv at_ 7) ((hv.getD ii default).h.n : Int))))] 59 71 [12] [(12, (.pointer (some ⟨sB (hv.getD ii default).h.v, sO (hv.getD ii default).h.v + (aQ (Int.tdiv at_ 7) ((hv.getD ii default).h.n : Int)).toNat * Rp.sz VInT, none⟩)))] (vA (ql 40 0 (hc0 (BlkH.vw (lO ii) (by omega))) rfl rfl) (vA (vA (show (7 : Int) ≠ 0 from by decide) (vq (a := at_) (b := 7) (by omega) (by decide))) (vA (ql 40 0 (hc0 (BlkH.vw (lO ii) (by omega))) rfl rfl) (vA (m1.ef ex (Int.tdiv at_ 7) ((hv.getD ii default).h.n : Int) { oj with log := [] } (by omega)) (vA (Sv.ix (j := aQ (Int.tdiv at_ 7) ((hv.getD ii default).h.n : Int)) (OS.sv b7 dn (i := 6) rfl) (by omega) (by omega)) trivial))))) rfl rfl fun _ => ?_
   have hkk : (aQ (Int.tdiv at_ 7) ((hv.getD ii default).h.n : Int)).toNat < (lv.getD ii default).length := by omega
   generalize (aQ (Int.tdiv at_ 7) ((hv.getD ii default).h.n : Int)).toNat = kk at hkk ⊢
   refine ab ?_
   refine wm (.pointer (some ⟨b6, 0, none⟩)) rfl rfl rfl ?_
   refine aC (aw rfl rfl rfl) rfl rfl (m4.cL ex (⟨how⟩ : DigT) (40) (HS.callOwn dn (i := 2) rfl) (by omega) (by omega) hT (by omega)) ?_
   rintro _ rx ⟨O, mT, re, g6, es, rfl, pc, rL⟩
   replace es := HS.backOwn dn (i := 2) rfl rfl (fun _ hb => hb) es
   have es : HS _ _ _ [hh, hj, [(b6, .cells [(iI mT.n)] none false)], nF, J, mW, lr] _ := es
   replace hT := hT.mono g6
   refine wRo 2 2 [] 76 76 [13] [(13, (iI (O - 2)))] (vA (vi (n := O - 2) (by omega)) trivial) rfl fun _ => ?_
   refine ai 3 rfl ?_
   refine ab ?_
   refine wm (.pointer (some ⟨b6, 0, none⟩)) rfl rfl rfl ?_
   refine aC (aw rfl rfl rfl) rfl rfl (m4.cL ex (⟨mT.n⟩ : DigT) (14) (HS.callOwn es (i := 2) rfl) (by omega) (by omega) hT (by omega)) ?_
   rintro _ ry ⟨Z, mU, ds, g7, ha, rfl, pd, rM⟩
   replace ha := HS.backOwn es (i := 2) rfl rfl (fun _ hb => hb) ha
   have ha : HS _ _ _ [_, _, [(b6, .cells [(iI mU.n)] none false)], _, _, _, _] _ := ha
   replace hT := hT.mono g7
   replace b7 := (b7.mono g6).mono g7
   replace E := (E.mono g6).mono g7
   refine wa (iI Z) rfl rfl rfl ?_
   refine ai 3 rfl ?_
   refine wR 1 [] 79 81 [] [(79, (.bool (Z == 0)))] trivial rfl fun _ => ?_
   obtain ⟨cv, ad, a9⟩ := SF.shut0 mX (fT (g6) g7) ha (q := 5) (m := 6) (by decide) rfl rfl b7
   have ad : HS _ _ _ [_, _, _, _, _, cv, []] _ := ad
   have qV := FAM.len a9
   refine dp (fun f H' => ∃ (a8 : List BlkH) (em : List (List VInT)) (pq : Int) (rq : Int) (b5 : Fp) (a6 : Option Addr) (a7 : Nat) (ec : Fp) (F' : Fz), Fz.le ds F' ∧ HS (Base.of H []) F' H' [hh, hj, [(b6, .cells [(iI mU.n)] none false)], [(b9, .cells [(iI pq), (iI rq), (.slice a6 a8.length a7)] none false)], b5, ec, []] R ∧ OS F' (.slice a6 a8.length a7) a8 b5 ∧ SF F' a8 em ec ∧ aS f [(6, (.pointer (some ⟨b3, 0, none⟩))), (8, (.pointer (some ⟨b9, 0, none⟩)))] ∧ (in64 pq ∧ in64 rq) ∧ (a8.length ≤ 1000) ∧ (∀ m, (∀ j, okI m (c.blocks.getD j default).ins) → ∀ y ∈ em, okI (m + 1) y)) (fun bb => ?_) ?_
   ·
    refine aj 0 1 (v := (Z == 0)) rfl rfl rfl rfl (fun mM => ?_) (fun mM => ?_)
    ·
     try simp only [BS] at mM
     refine ab ?_
     refine wRo 2 0 [] 82 83 [] [(82, (iI (O - 2))), (83, (.pointer (some ⟨b9, 0, none⟩)))] trivial rfl fun _ => ?_
     refine aD (ax (q := 3) ad rfl rfl rfl rfl rfl rfl rfl rfl rfl) rfl ?_
     rintro _ rA _ ⟨lG, _⟩
     have lG : HS _ _ _ [_, _, _, [(b9, .cells [(iI (O - 2)), (iI c.regs), (.slice z hv.length A)] none false)], _, _, _] _ := lG
     refine ai 0 rfl ?_
     exact bb _ _ ⟨hv, lv, O - 2, c.regs, J, z, A, cv, _, fR, lG, E, a9, ⟨rfl, rfl, trivial⟩, (by omega), (by omega), (by exact fun m hm => by exact jk (e4 m hm))⟩
    ·
     try simp only [BS] at mM
     refine wR 1 [] 84 86 [] [(84, (.bool (Z == 1)))] trivial rfl fun _ => ?_
     refine aj 0 1 (v := (Z == 1)) rfl rfl rfl rfl (fun mN => ?_) (fun mN => ?_)
     ·
      try simp only [BS] at mN
      refine ab ?_
      refine wRo 2 0 [] 87 88 [] [(87, (iI (O - 2))), (88, (.pointer (some ⟨b9, 1, none⟩)))] trivial rfl fun _ => ?_
      refine aD (ax (q := 3) ad rfl rfl rfl rfl rfl rfl rfl rfl rfl) rfl ?_
      rintro _ rB _ ⟨lH, _⟩
      have lH : HS _ _ _ [_, _, _, [(b9, .cells [(iI c.params), (iI (O - 2)), (.slice z hv.length A)] none false)], _, _, _] _ := lH
      refine ai 0 rfl ?_
      exact bb _ _ ⟨hv, lv, c.params, O - 2, J, z, A, cv, _, fR, lH, E, a9, ⟨rfl, rfl, trivial⟩, (by omega), (by omega), (by exact fun m hm => by exact jk (e4 m hm))⟩
     ·
      try simp only [BS] at mN
      refine wR 1 [] 89 91 [] [(89, (.bool (Z == 2)))] trivial rfl fun _ => ?_
      refine aj 0 1 (v := (Z == 2)) rfl rfl rfl rfl (fun mO => ?_) (fun mO => ?_)
      ·
       try simp only [BS] at mO
       refine ab ?_
       refine wRo 4 0 [] 92 95 [] [(93, (iI (O - 2))), (95, (.pointer (some ⟨sB (.slice z hv.length A), sO (.slice z hv.length A) + ii * Rp.sz BlkH + 1, none⟩)))] trivial rfl fun _ => ?_
       have oG := SF.put (⟨(hv.getD ii default).h, O - 2, (hv.getD ii default).reg, (hv.getD ii default).tgt, (hv.getD ii default).els⟩ : BlkH) a9 (i := ii) rfl
       refine aD (de (α := BlkH) (j := ii) (off := 1) (q := 4) (⟨(hv.getD ii default).h, O - 2, (hv.getD ii default).reg, (hv.getD ii default).tgt, (hv.getD ii default).els⟩ : BlkH) E ad rfl rfl rfl rfl rfl rfl rfl rfl (aI (x := default) (by omega)) rfl (by rintro cs ⟨rfl, a0, a1, a2, a3⟩; exact ⟨Nat.le_of_ble_eq_true rfl, ⟨rfl, by (dsimp only; omega), a1, a2, a3⟩⟩)) rfl ?_
       rintro _ rD ot ⟨na, lI, _⟩
       have lI : HS _ _ _ [_, _, _, _, ot, _, _] _ := lI
       have pS := OS.len' na
       refine ai 0 rfl ?_
       exact bb _ _ ⟨hv.set ii (⟨(hv.getD ii default).h, O - 2, (hv.getD ii default).reg, (hv.getD ii default).tgt, (hv.getD ii default).els⟩ : BlkH), lv, c.params, c.regs, ot, z, A, cv, _, fR, (by simpa only [List.length_set] using lI), (OS.norm na), oG, ⟨rfl, rfl, trivial⟩, (by omega), (by omega), (by exact fun m hm => by exact jk (e4 m hm))⟩
      ·
       try simp only [BS] at mO
       refine wR 1 [] 96 98 [] [(96, (.bool (Z == 3)))] trivial rfl fun _ => ?_
       refine aj 0 1 (v := (Z == 3)) rfl rfl rfl rfl (fun mP => ?_) (fun mP => ?_)
       ·
        try simp only [BS] at mP
        refine ab ?_
        refine wRo 4 0 [] 99 102 [] [(100, (iI (O - 2))), (102, (.pointer (some ⟨sB (.slice z hv.length A), sO (.slice z hv.length A) + ii * Rp.sz BlkH + 2, none⟩)))] trivial rfl fun _ => ?_
        have oH := SF.put (⟨(hv.getD ii default).h, (hv.getD ii default).fin, O - 2, (hv.getD ii default).tgt, (hv.getD ii default).els⟩ : BlkH) a9 (i := ii) rfl
        refine aD (de (α := BlkH) (j := ii) (off := 2) (q := 4) (⟨(hv.getD ii default).h, (hv.getD ii default).fin, O - 2, (hv.getD ii default).tgt, (hv.getD ii default).els⟩ : BlkH) E ad rfl rfl rfl rfl rfl rfl rfl rfl (aI (x := default) (by omega)) rfl (by rintro cs ⟨rfl, a0, a1, a2, a3⟩; exact ⟨Nat.le_of_ble_eq_true rfl, ⟨rfl, a0, by (dsimp only; omega), a2, a3⟩⟩)) rfl ?_
        rintro _ rE ou ⟨ne, lJ, _⟩
        have lJ : HS _ _ _ [_, _, _, _, ou, _, _] _ := lJ
        have pT := OS.len' ne
        refine ai 0 rfl ?_
        exact bb _ _ ⟨hv.set ii (⟨(hv.getD ii default).h, (hv.getD ii default).fin, O - 2, (hv.getD ii default).tgt, (hv.getD ii default).els⟩ : BlkH), lv, c.params, c.regs, ou, z, A, cv, _, fR, (by simpa only [List.length_set] using lJ), (OS.norm ne), oH, ⟨rfl, rfl, trivial⟩, (by omega), (by omega), (by exact fun m hm => by exact jk (e4 m hm))⟩
       ·
        try simp only [BS] at mP
        refine wR 1 [] 103 105 [] [(103, (.bool (Z == 4)))] trivial rfl fun _ => ?_
        refine aj 0 1 (v := (Z == 4)) rfl rfl rfl rfl (fun mQ => ?_) (fun mQ => ?_)
        ·
         try simp only [BS] at mQ
         refine ab ?_
         refine wRo 4 0 [] 106 109 [] [(107, (iI (O - 2))), (109, (.pointer (some ⟨sB (.slice z hv.length A), sO (.slice z hv.length A) + ii * Rp.sz BlkH + 3, none⟩)))] trivial rfl fun _ => ?_
         have oI := SF.put (⟨(hv.getD ii default).h, (hv.getD ii default).fin, (hv.getD ii default).reg, O - 2, (hv.getD ii default).els⟩ : BlkH) a9 (i := ii) rfl
         refine aD (de (α := BlkH) (j := ii) (off := 3) (q := 4) (⟨(hv.getD ii default).h, (hv.getD ii default).fin, (hv.getD ii default).reg, O - 2, (hv.getD ii default).els⟩ : BlkH) E ad rfl rfl rfl rfl rfl rfl rfl rfl (aI (x := default) (by omega)) rfl (by rintro cs ⟨rfl, a0, a1, a2, a3⟩; exact ⟨Nat.le_of_ble_eq_true rfl, ⟨rfl, a0, a1, by (dsimp only; omega), a3⟩⟩)) rfl ?_
         rintro _ rF ov ⟨ng, lK, _⟩
         have lK : HS _ _ _ [_, _, _, _, ov, _, _] _ := lK
         have pU := OS.len' ng
         refine ai 0 rfl ?_
         exact bb _ _ ⟨hv.set ii (⟨(hv.getD ii default).h, (hv.getD ii default).fin, (hv.getD ii default).reg, O - 2, (hv.getD ii default).els⟩ : BlkH), lv, c.params, c.regs, ov, z, A, cv, _, fR, (by simpa only [List.length_set] using lK), (OS.norm ng), oI, ⟨rfl, rfl, trivial⟩, (by omega), (by omega), (by exact fun m hm => by exact jk (e4 m hm))⟩
        ·
         try simp only [BS] at mQ
         refine wR 1 [] 110 112 [] [(110, (.bool (Z == 5)))] trivial rfl fun _ => ?_
         refine aj 0 1 (v := (Z == 5)) rfl rfl rfl rfl (fun mR => ?_) (fun mR => ?_)
         ·
          try simp only [BS] at mR
          refine ab ?_
          refine wRo 4 0 [] 113 116 [] [(114, (iI (O - 2))), (116, (.pointer (some ⟨sB (.slice z hv.length A), sO (.slice z hv.length A) + ii * Rp.sz BlkH + 4, none⟩)))] trivial rfl fun _ => ?_
          have oJ := SF.put (⟨(hv.getD ii default).h, (hv.getD ii default).fin, (hv.getD ii default).reg, (hv.getD ii default).tgt, O - 2⟩ : BlkH) a9 (i := ii) rfl
          refine aD (de (α := BlkH) (j := ii) (off := 4) (q := 4) (⟨(hv.getD ii default).h, (hv.getD ii default).fin, (hv.getD ii default).reg, (hv.getD ii default).tgt, O - 2⟩ : BlkH) E ad rfl rfl rfl rfl rfl rfl rfl rfl (aI (x := default) (by omega)) rfl (by rintro cs ⟨rfl, a0, a1, a2, a3⟩; exact ⟨Nat.le_of_ble_eq_true rfl, ⟨rfl, a0, a1, a2, by (dsimp only; omega)⟩⟩)) rfl ?_
          rintro _ rG ow ⟨nh, lL, _⟩
          have lL : HS _ _ _ [_, _, _, _, ow, _, _] _ := lL
          have pV := OS.len' nh
          refine ai 0 rfl ?_
          exact bb _ _ ⟨hv.set ii (⟨(hv.getD ii default).h, (hv.getD ii default).fin, (hv.getD ii default).reg, (hv.getD ii default).tgt, O - 2⟩ : BlkH), lv, c.params, c.regs, ow, z, A, cv, _, fR, (by simpa only [List.length_set] using lL), (OS.norm nh), oJ, ⟨rfl, rfl, trivial⟩, (by omega), (by omega), (by exact fun m hm => by exact jk (e4 m hm))⟩
         ·
          try simp only [BS] at mR
          refine wR 1 [] 117 119 [] [(117, (.bool (Z == 6)))] trivial rfl fun _ => ?_
          refine aj 0 1 (v := (Z == 6)) rfl rfl rfl rfl (fun mS => ?_) (fun mS => ?_)
          ·
           try simp only [BS] at mS
           obtain ⟨oD, mV, lM, hu, oE⟩ := SF.open a9 ad (q := 5) (i := ii) rfl (by omega)
           have lM : HS _ _ _ [_, _, _, _, _, oD, _, mV] _ := lM
           have hu : OS ds (hv.getD ii default).h.v (lv.getD ii default) mV := hu
           have q8 := OS.nlen hu
           refine ab ?_
           refine wRo 5 0 [] 120 124 [] [(121, (iI (O - 2))), (124, (.pointer (some ⟨sB (hv.getD ii default).h.v, sO (hv.getD ii default).h.v + kk * Rp.sz VInT, none⟩)))] trivial rfl fun _ => ?_
           refine aD (de (α := VInT) (j := kk) (off := 0) (q := 7) (⟨(⟨O - 2, ((lv.getD ii default).getD kk default).i.a, ((lv.getD ii default).getD kk default).i.b, ((lv.getD ii default).getD kk default).i.c, ((lv.getD ii default).getD kk default).i.n⟩ : InsT), ((lv.getD ii default).getD kk default).args⟩ : VInT) hu lM rfl rfl rfl rfl rfl rfl rfl rfl (aI (x := default) (by omega)) rfl (by rintro cs ⟨c8, dk, rfl, c9, a0, a1, a2, a3, dd⟩; exact ⟨Nat.le_of_ble_eq_true rfl, ⟨c8, dk, rfl, by (dsimp only; omega), a0, a1, a2, a3, dd⟩⟩)) rfl ?_
           rintro _ rH pw ⟨ni, lN, _⟩
           have lN : HS _ _ _ [_, _, _, _, _, _, _, pw] _ := lN
           have pW := OS.len' ni
           refine ai 0 rfl ?_
           obtain ⟨l0, hw, mc⟩ := SF.shut oE fR lN (q := 5) (m := 7) (by decide) rfl rfl ni
           have hw : HS _ _ _ [_, _, _, _, _, l0, _, []] _ := hw
           have px := FAM.len mc
           exact bb _ _ ⟨hv, lv.set ii ((lv.getD ii default).set kk (⟨(⟨O - 2, ((lv.getD ii default).getD kk default).i.a, ((lv.getD ii default).getD kk default).i.b, ((lv.getD ii default).getD kk default).i.c, ((lv.getD ii default).getD kk default).i.n⟩ : InsT), ((lv.getD ii default).getD kk default).args⟩ : VInT)), c.params, c.regs, J, z, A, l0, _, fR, (HS.sub hw (List.sublist_append_left _ _)), E, mc, ⟨rfl, rfl, trivial⟩, (by omega), (by omega), (by exact fun m hm => by exact gZ (e4 m hm) (Nat.le_succ_of_le (eM (dg (e4 m hm)))))⟩
          ·
           try simp only [BS] at mS
           refine wR 1 [] 125 127 [] [(125, (.bool (Z == 7)))] trivial rfl fun _ => ?_
           refine aj 0 1 (v := (Z == 7)) rfl rfl rfl rfl (fun kv => ?_) (fun kv => ?_)
           ·
            try simp only [BS] at kv
            obtain ⟨nK, lV, hx, e9, nR⟩ := SF.open a9 ad (q := 5) (i := ii) rfl (by omega)
            have hx : HS _ _ _ [_, _, _, _, _, nK, _, lV] _ := hx
            have e9 : OS ds (hv.getD ii default).h.v (lv.getD ii default) lV := e9
            have p1 := OS.nlen e9
            refine ab ?_
            refine wRo 5 0 [] 128 132 [] [(129, (iI (O - 2))), (132, (.pointer (some ⟨sB (hv.getD ii default).h.v, sO (hv.getD ii default).h.v + kk * Rp.sz VInT + 1, none⟩)))] trivial rfl fun _ => ?_
            refine aD (de (α := VInT) (j := kk) (off := 1) (q := 7) (⟨(⟨((lv.getD ii default).getD kk default).i.op, O - 2, ((lv.getD ii default).getD kk default).i.b, ((lv.getD ii default).getD kk default).i.c, ((lv.getD ii default).getD kk default).i.n⟩ : InsT), ((lv.getD ii default).getD kk default).args⟩ : VInT) e9 hx rfl rfl rfl rfl rfl rfl rfl rfl (aI (x := default) (by omega)) rfl (by rintro cs ⟨c8, dk, rfl, c9, a0, a1, a2, a3, dd⟩; exact ⟨Nat.le_of_ble_eq_true rfl, ⟨c8, dk, rfl, c9, by (dsimp only; omega), a1, a2, a3, dd⟩⟩)) rfl ?_
            rintro _ qf oS ⟨mn, hz, _⟩
            have hz : HS _ _ _ [_, _, _, _, _, _, _, oS] _ := hz
            have pe := OS.len' mn
            refine ai 0 rfl ?_
            obtain ⟨l1, hA, md⟩ := SF.shut nR fR hz (q := 5) (m := 7) (by decide) rfl rfl mn
            have hA : HS _ _ _ [_, _, _, _, _, l1, _, []] _ := hA
            have py := FAM.len md
            exact bb _ _ ⟨hv, lv.set ii ((lv.getD ii default).set kk (⟨(⟨((lv.getD ii default).getD kk default).i.op, O - 2, ((lv.getD ii default).getD kk default).i.b, ((lv.getD ii default).getD kk default).i.c, ((lv.getD ii default).getD kk default).i.n⟩ : InsT), ((lv.getD ii default).getD kk default).args⟩ : VInT)), c.params, c.regs, J, z, A, l1, _, fR, (HS.sub hA (List.sublist_append_left _ _)), E, md, ⟨rfl, rfl, trivial⟩, (by omega), (by omega), (by exact fun m hm => by exact gZ (e4 m hm) (Nat.le_succ_of_le (eM (dg (e4 m hm)))))⟩
           ·
            try simp only [BS] at kv
            refine wR 1 [] 133 135 [] [(133, (.bool (Z == 8)))] trivial rfl fun _ => ?_
            refine aj 0 1 (v := (Z == 8)) rfl rfl rfl rfl (fun k0 => ?_) (fun k0 => ?_)
            ·
             try simp only [BS] at k0
             obtain ⟨nL, lW, hB, fd, nS⟩ := SF.open a9 ad (q := 5) (i := ii) rfl (by omega)
             have hB : HS _ _ _ [_, _, _, _, _, nL, _, lW] _ := hB
             have fd : OS ds (hv.getD ii default).h.v (lv.getD ii default) lW := fd
             have p2 := OS.nlen fd
             refine ab ?_
             refine wRo 5 0 [] 136 140 [] [(137, (iI (O - 2))), (140, (.pointer (some ⟨sB (hv.getD ii default).h.v, sO (hv.getD ii default).h.v + kk * Rp.sz VInT + 2, none⟩)))] trivial rfl fun _ => ?_
             refine aD (de (α := VInT) (j := kk) (off := 2) (q := 7) (⟨(⟨((lv.getD ii default).getD kk default).i.op, ((lv.getD ii default).getD kk default).i.a, O - 2, ((lv.getD ii default).getD kk default).i.c, ((lv.getD ii default).getD kk default).i.n⟩ : InsT), ((lv.getD ii default).getD kk default).args⟩ : VInT) fd hB rfl rfl rfl rfl rfl rfl rfl rfl (aI (x := default) (by omega)) rfl (by rintro cs ⟨c8, dk, rfl, c9, a0, a1, a2, a3, dd⟩; exact ⟨Nat.le_of_ble_eq_true rfl, ⟨c8, dk, rfl, c9, a0, by (dsimp only; omega), a2, a3, dd⟩⟩)) rfl ?_
             rintro _ qg oT ⟨mo, hC, _⟩
             have hC : HS _ _ _ [_, _, _, _, _, _, _, oT] _ := hC
             have pf := OS.len' mo
             refine ai 0 rfl ?_
             obtain ⟨l2, hD, me⟩ := SF.shut nS fR hC (q := 5) (m := 7) (by decide) rfl rfl mo
             have hD : HS _ _ _ [_, _, _, _, _, l2, _, []] _ := hD
             have pz := FAM.len me
             exact bb _ _ ⟨hv, lv.set ii ((lv.getD ii default).set kk (⟨(⟨((lv.getD ii default).getD kk default).i.op, ((lv.getD ii default).getD kk default).i.a, O - 2, ((lv.getD ii default).getD kk default).i.c, ((lv.getD ii default).getD kk default).i.n⟩ : InsT), ((lv.getD ii default).getD kk default).args⟩ : VInT)), c.params, c.regs, J, z, A, l2, _, fR, (HS.sub hD (List.sublist_append_left _ _)), E, me, ⟨rfl, rfl, trivial⟩, (by omega), (by omega), (by exact fun m hm => by exact gZ (e4 m hm) (Nat.le_succ_of_le (eM (dg (e4 m hm)))))⟩
            ·
             try simp only [BS] at k0
             refine wR 1 [] 141 143 [] [(141, (.bool (Z == 9)))] trivial rfl fun _ => ?_
             refine aj 0 1 (v := (Z == 9)) rfl rfl rfl rfl (fun k3 => ?_) (fun k3 => ?_)
             ·
              try simp only [BS] at k3
              obtain ⟨nM, lX, hE, fi, nT⟩ := SF.open a9 ad (q := 5) (i := ii) rfl (by omega)
              have hE : HS _ _ _ [_, _, _, _, _, nM, _, lX] _ := hE
              have fi : OS ds (hv.getD ii default).h.v (lv.getD ii default) lX := fi
              have p3 := OS.nlen fi
              refine ab ?_
              refine wRo 5 0 [] 144 148 [] [(145, (iI (O - 2))), (148, (.pointer (some ⟨sB (hv.getD ii default).h.v, sO (hv.getD ii default).h.v + kk * Rp.sz VInT + 3, none⟩)))] trivial rfl fun _ => ?_
              refine aD (de (α := VInT) (j := kk) (off := 3) (q := 7) (⟨(⟨((lv.getD ii default).getD kk default).i.op, ((lv.getD ii default).getD kk default).i.a, ((lv.getD ii default).getD kk default).i.b, O - 2, ((lv.getD ii default).getD kk default).i.n⟩ : InsT), ((lv.getD ii default).getD kk default).args⟩ : VInT) fi hE rfl rfl rfl rfl rfl rfl rfl rfl (aI (x := default) (by omega)) rfl (by rintro cs ⟨c8, dk, rfl, c9, a0, a1, a2, a3, dd⟩; exact ⟨Nat.le_of_ble_eq_true rfl, ⟨c8, dk, rfl, c9, a0, a1, by (dsimp only; omega), a3, dd⟩⟩)) rfl ?_
              rintro _ qh oU ⟨mp, hF, _⟩
              have hF : HS _ _ _ [_, _, _, _, _, _, _, oU] _ := hF
              have ph := OS.len' mp
              refine ai 0 rfl ?_
              obtain ⟨l3, hG, mf⟩ := SF.shut nT fR hF (q := 5) (m := 7) (by decide) rfl rfl mp
              have hG : HS _ _ _ [_, _, _, _, _, l3, _, []] _ := hG
              have pA := FAM.len mf
              exact bb _ _ ⟨hv, lv.set ii ((lv.getD ii default).set kk (⟨(⟨((lv.getD ii default).getD kk default).i.op, ((lv.getD ii default).getD kk default).i.a, ((lv.getD ii default).getD kk default).i.b, O - 2, ((lv.getD ii default).getD kk default).i.n⟩ : InsT), ((lv.getD ii default).getD kk default).args⟩ : VInT)), c.params, c.regs, J, z, A, l3, _, fR, (HS.sub hG (List.sublist_append_left _ _)), E, mf, ⟨rfl, rfl, trivial⟩, (by omega), (by omega), (by exact fun m hm => by exact gZ (e4 m hm) (Nat.le_succ_of_le (eM (dg (e4 m hm)))))⟩
             ·
              try simp only [BS] at k3
              refine wR 1 [] 149 151 [] [(149, (.bool (Z == 10)))] trivial rfl fun _ => ?_
              refine aj 0 1 (v := (Z == 10)) rfl rfl rfl rfl (fun k4 => ?_) (fun k4 => ?_)
              ·
               try simp only [BS] at k4
               obtain ⟨nN, lY, f1, c3, nU⟩ := SF.open a9 ad (q := 5) (i := ii) rfl (by omega)
               have f1 : HS _ _ _ [_, _, _, _, _, nN, _, lY] _ := f1
               have c3 : OS ds (hv.getD ii default).h.v (lv.getD ii default) lY := c3
               have p4 := OS.nlen c3
               refine ab ?_
               refine wRo 2 0 [] 152 153 [] [(152, (.pointer (some ⟨sB (hv.getD ii default).h.v, sO (hv.getD ii default).h.v + kk * Rp.sz VInT, none⟩))), (153, (iI (O - 2)))] trivial rfl fun _ => ?_
               refine aC (aw rfl rfl rfl) rfl rfl (m4.word_c ex (O - 2) (1099511627776) (HS.call f1) (by omega) (by omega) hT) ?_
               rintro _ qi ⟨nC, p6, ez, d1, rfl, qY⟩
               replace d1 := HS.back f1 rfl d1
               have d1 : HS _ _ _ [_, _, _, _, _, _, _, _] _ := d1
               replace c3 := c3.mono ez
               replace E := E.mono ez
               refine wRo 3 3 [] 155 157 [] [(157, (.pointer (some ⟨sB (hv.getD ii default).h.v, sO (hv.getD ii default).h.v + kk * Rp.sz VInT + 4, none⟩)))] trivial rfl fun _ => ?_
               refine aD (de (α := VInT) (j := kk) (off := 4) (q := 7) (⟨(⟨((lv.getD ii default).getD kk default).i.op, ((lv.getD ii default).getD kk default).i.a, ((lv.getD ii default).getD kk default).i.b, ((lv.getD ii default).getD kk default).i.c, nC⟩ : InsT), ((lv.getD ii default).getD kk default).args⟩ : VInT) c3 d1 rfl rfl rfl rfl rfl rfl rfl rfl (aI (x := default) (by omega)) rfl (by rintro cs ⟨c8, dk, rfl, c9, a0, a1, a2, a3, dd⟩; exact ⟨Nat.le_of_ble_eq_true rfl, ⟨c8, dk, rfl, c9, a0, a1, a2, by omega, dd⟩⟩)) rfl ?_
               rintro _ qj oW ⟨mq, hH, _⟩
               have hH : HS _ _ _ [_, _, _, _, _, _, _, oW] _ := hH
               have pi := OS.len' mq
               refine ai 0 rfl ?_
               obtain ⟨l4, hI, mg⟩ := SF.shut nU (ez) hH (q := 5) (m := 7) (by decide) rfl rfl mq
               have hI : HS _ _ _ [_, _, _, _, _, l4, _, []] _ := hI
               have pB := FAM.len mg
               exact bb _ _ ⟨hv, lv.set ii ((lv.getD ii default).set kk (⟨(⟨((lv.getD ii default).getD kk default).i.op, ((lv.getD ii default).getD kk default).i.a, ((lv.getD ii default).getD kk default).i.b, ((lv.getD ii default).getD kk default).i.c, nC⟩ : InsT), ((lv.getD ii default).getD kk default).args⟩ : VInT)), c.params, c.regs, J, z, A, l4, _, (ez), (HS.sub hI (List.sublist_append_left _ _)), E, mg, ⟨rfl, rfl, trivial⟩, (by omega), (by omega), (by exact fun m hm => by exact gZ (e4 m hm) (Nat.le_succ_of_le (eM (dg (e4 m hm)))))⟩
              ·
               try simp only [BS] at k4
               refine wR 1 [] 158 160 [] [(158, (.bool (Z == 11)))] trivial rfl fun _ => ?_
               refine aj 0 1 (v := (Z == 11)) rfl rfl rfl rfl (fun k5 => ?_) (fun k5 => ?_)
               ·
                try simp only [BS] at k5
                obtain ⟨nO, lZ, f2, ch, nV⟩ := SF.open a9 ad (q := 5) (i := ii) rfl (by omega)
                have f2 : HS _ _ _ [_, _, _, _, _, nO, _, lZ] _ := f2
                have ch : OS ds (hv.getD ii default).h.v (lv.getD ii default) lZ := ch
                have p5 := OS.nlen ch
                refine ab ?_
                obtain ⟨et, mA⟩ := Sv.view (OS.sv ch f2 (i := 7) rfl)
                obtain ⟨o6, o7, o8, o9, pb, nE⟩ := VInT.fx (mA kk)
                refine wRo 5 0 [(4, .o (.slice (cA (et kk) 5) ((lv.getD ii default).getD kk default).args.length (cK (et kk) 5)))] 161 165 [] [(161, (.pointer (some ⟨sB (hv.getD ii default).h.v, sO (hv.getD ii default).h.v + kk * Rp.sz VInT, none⟩))), (165, (.slice (cA (et kk) 5) ((lv.getD ii default).getD kk default).args.length (cK (et kk) 5)))] (vA (ql 25 5 (VInT.vw (mA kk) (by omega)) rfl rfl) trivial) rfl fun _ => ?_
                have f6 := HS.snoc f2
                have f6 : HS _ _ _ [_, _, _, _, _, _, _, _, []] _ := f6
                refine aP (cT (α := Int) (q := 8) (OS.nil : OS ds (.slice none 0 0) ([] : List Int) []) f6 rfl rfl rfl (SR.sv nE f6) rfl rfl rfl rfl rfl rfl rfl (by (simp only [List.length_nil]; first | omega | (have hq := eM (i := kk) (dg (i := ii) e2); omega)))) rfl rfl ?_
                rintro _ qk nv ⟨oz, oP, rfl, hp, hK, _⟩
                have hK : HS _ _ _ [_, _, _, _, _, _, _, _, nv] _ := hK
                have hp : OS ds (.slice oz ((lv.getD ii default).getD kk default).args.length oP) ((lv.getD ii default).getD kk default).args nv := hp
                refine wm (iI (O - 2)) rfl rfl rfl ?_
                refine aP (bZ (α := Int) (ps := [(0, (iI (O - 2)))]) (cells := [(iI (O - 2))]) ([O - 2] : List Int) hK rfl rfl rfl (by kernel_rfl) ⟨[(iI (O - 2))], [], rfl, ⟨rfl, by omega⟩, rfl⟩ rfl) rfl rfl ?_
                rintro _ qm oX ⟨qO, q5, rfl, n4, f7, _⟩
                have f7 : HS _ _ _ [_, _, _, _, _, _, _, _, _, oX] _ := f7
                refine aP (cT (α := Int) (q := 8) hp f7 rfl rfl rfl (OS.sv n4 f7 (i := 9) rfl) rfl rfl rfl rfl rfl rfl rfl (by (simp only [List.length_cons, List.length_nil]; first | omega | (have hq := eM (i := kk) (dg (i := ii) e2); omega)))) rfl rfl ?_
                rintro _ qo oY ⟨oA, oQ, rfl, n5, hM, _⟩
                have hM : HS _ _ _ [_, _, _, _, _, _, _, _, oY, _] _ := hM
                refine wRo 2 9 [] 170 171 [] [(171, (.pointer (some ⟨sB (hv.getD ii default).h.v, sO (hv.getD ii default).h.v + kk * Rp.sz VInT + 5, none⟩)))] trivial rfl fun _ => ?_
                obtain ⟨p7, e0, hN, n9, pX⟩ := OS.frz n5 hM (i := 8) rfl
                have hN : HS _ _ _ [_, _, _, _, _, _, _, _, [], _] _ := hN
                replace ch := ch.mono e0
                replace E := E.mono e0
                refine aD (de (α := VInT) (j := kk) (off := 5) (q := 7) (⟨(⟨((lv.getD ii default).getD kk default).i.op, ((lv.getD ii default).getD kk default).i.a, ((lv.getD ii default).getD kk default).i.b, ((lv.getD ii default).getD kk default).i.c, ((lv.getD ii default).getD kk default).i.n⟩ : InsT), ((lv.getD ii default).getD kk default).args ++ ([O - 2] : List Int)⟩ : VInT) ch hN rfl rfl rfl rfl rfl rfl rfl rfl (aI (x := default) (by omega)) rfl (by rintro cs ⟨c8, dk, rfl, c9, a0, a1, a2, a3, dd⟩; exact ⟨Nat.le_of_ble_eq_true rfl, ⟨oA, oQ, rfl, c9, a0, a1, a2, a3, n9⟩⟩)) rfl ?_
                rintro _ qp oZ ⟨mr, hP, _⟩
                have hP : HS _ _ _ [_, _, _, _, _, _, _, oZ, _, _] _ := hP
                have pj := OS.len' mr
                refine ai 0 rfl ?_
                obtain ⟨l5, hQ, mh⟩ := SF.shut nV (e0) hP (q := 5) (m := 7) (by decide) rfl rfl mr
                have hQ : HS _ _ _ [_, _, _, _, _, l5, _, [], _, _] _ := hQ
                have pC := FAM.len mh
                exact bb _ _ ⟨hv, lv.set ii ((lv.getD ii default).set kk (⟨(⟨((lv.getD ii default).getD kk default).i.op, ((lv.getD ii default).getD kk default).i.a, ((lv.getD ii default).getD kk default).i.b, ((lv.getD ii default).getD kk default).i.c, ((lv.getD ii default).getD kk default).i.n⟩ : InsT), ((lv.getD ii default).getD kk default).args ++ ([O - 2] : List Int)⟩ : VInT)), c.params, c.regs, J, z, A, l5, _, (e0), (HS.sub hQ (List.sublist_append_left _ _)), E, mh, ⟨rfl, rfl, trivial⟩, (by omega), (by omega), (by exact fun m hm => by exact gZ (e4 m hm) (ok_more (eM (dg (e4 m hm)))))⟩
               ·
                try simp only [BS] at k5
                refine wR 1 [] 172 174 [] [(172, (.bool (Z == 12)))] trivial rfl fun _ => ?_
                refine aj 0 0 (v := (Z == 12)) rfl rfl rfl rfl (fun k6 => ?_) (fun k6 => ?_)
                ·
                 try simp only [BS] at k6
                 refine ab ?_
                 refine wRo 8 0 [(1, .o (.slice z hv.length A)), (4, .o (.slice z hv.length A))] 175 182 [] [(176, (.slice z hv.length A)), (182, (iI (if (if (hv.length : Int) < O - 2 then (hv.length : Int) else O - 2) > (0 : Int) then (if (hv.length : Int) < O - 2 then (hv.length : Int) else O - 2) else (0 : Int))))] (vA (ql 22 2 (HS.hc ad (i := 3) rfl) rfl rfl) (vA (ql 22 2 (HS.hc ad (i := 3) rfl) rfl rfl) trivial)) rfl fun _ => ?_
                 refine aP (kB (α := BlkH) (j := (if (if (hv.length : Int) < O - 2 then (hv.length : Int) else O - 2) > (0 : Int) then (if (hv.length : Int) < O - 2 then (hv.length : Int) else O - 2) else (0 : Int)).toNat) E ad (q := 4) rfl rfl rfl rfl (optN (by omega)) (by omega)) rfl rfl ?_
                 rintro _ _ _ ⟨mC, ns, rfl, e5, n7⟩
                 simp only at e5; replace e5 := e5.symm; subst e5
                 obtain ⟨l6, nP, nI, mi⟩ := FAM.take (if (if (hv.length : Int) < O - 2 then (hv.length : Int) else O - 2) > (0 : Int) then (if (hv.length : Int) < O - 2 then (hv.length : Int) else O - 2) else (0 : Int)).toNat a9
                 have hR := HS.open ad (i := 5) rfl (List.Perm.of_eq nI)
                 have hR : HS _ _ _ [_, _, _, _, _, l6, _, nP] _ := hR
                 have pD := FAM.len mi
                 refine wRo 1 9 [] 184 184 [] [(184, (.pointer (some ⟨b9, 2, none⟩)))] trivial rfl fun _ => ?_
                 refine aD (ax (q := 3) hR rfl rfl rfl rfl rfl rfl rfl rfl rfl) rfl ?_
                 rintro _ qq _ ⟨hS, _⟩
                 have hS : HS _ _ _ [_, _, _, [(b9, .cells [(iI c.params), (iI c.regs), (.slice mC (hv.take (if (if (hv.length : Int) < O - 2 then (hv.length : Int) else O - 2) > (0 : Int) then (if (hv.length : Int) < O - 2 then (hv.length : Int) else O - 2) else (0 : Int)).toNat).length ns)] none false)], _, _, _, _] _ := hS
                 refine ai 0 rfl ?_
                 exact bb _ _ ⟨hv.take (if (if (hv.length : Int) < O - 2 then (hv.length : Int) else O - 2) > (0 : Int) then (if (hv.length : Int) < O - 2 then (hv.length : Int) else O - 2) else (0 : Int)).toNat, lv.take (if (if (hv.length : Int) < O - 2 then (hv.length : Int) else O - 2) > (0 : Int) then (if (hv.length : Int) < O - 2 then (hv.length : Int) else O - 2) else (0 : Int)).toNat, c.params, c.regs, J, mC, ns, l6, _, fR, (HS.sub hS (List.sublist_append_left _ _)), n7, mi, ⟨rfl, rfl, trivial⟩, (by omega), (by (simp; omega)), (by exact fun m hm => by exact jk (fun y hy => e4 m hm y (List.mem_of_mem_take hy)))⟩
                ·
                 try simp only [BS] at k6
                 exact bb _ _ ⟨hv, lv, c.params, c.regs, J, z, A, cv, _, fR, ad, E, a9, ⟨rfl, rfl, trivial⟩, (by omega), (by omega), (by exact fun m hm => by exact jk (e4 m hm))⟩
   ·
    rintro rK rz ⟨a8, em, pq, rq, b5, a6, a7, ec, rf, oF, np, c0, kr, m0, j0, j1, j2⟩
    refine aF _ m0 (fun _ => ?_)
    clear m0
    have o2 := FAM.len kr
    refine ao 3 rfl ?_
    refine ab ?_
    let nG : Value := (.agg ⟨[(iI pq), (iI rq), (.slice a6 a8.length a7)]⟩)
    refine wRo 1 0 [(0, .o nG)] 185 185 [] [(185, nG)] (vA (qn 24 0 3 (HS.hc np (i := 3) rfl) rfl rfl rfl rfl) trivial) rfl fun _ => ?_
    refine aD (ax (q := 1) np rfl rfl rfl rfl rfl rfl rfl rfl rfl) rfl ?_
    rintro _ qr _ ⟨hV, _⟩
    have hV : HS _ _ _ [_, [(b3, .cells [(iI pq), (iI rq), (.slice a6 a8.length a7)] none false)], _, [(b9, .cells [(iI pq), (iI rq), (.slice a6 a8.length a7)] none false)], b5, ec, _] _ := hV
    refine ai 1 rfl ?_
    obtain ⟨p8, l8, hW, nX⟩ := SF.freeze kr hV (q := 5) rfl
    have hW : HS _ _ _ [_, _, _, _, _, [], _] _ := hW
    replace c0 := c0.mono l8
    obtain ⟨p9, l9, f9, ob, pY⟩ := OS.frz c0 hW (i := 4) rfl
    have f9 : HS _ _ _ [_, _, _, _, [], _, _] _ := f9
    have mx := blkH_rows ob (by omega) (fun i hi => SR.mono l9 (nX i hi))
    have oe := SR.len' mx
    have nj := SR.norm mx
    refine ah ⟨.inr rfl, _, (rC rfl (ldVN rfl rfl (HS.hc f9 (i := 1) rfl) rfl) rN), (⟨pq, rq, (blkZ a8 em)⟩ : VFnT), a6, a7, _, (fT (fT (fT (fT (fT (g5) g6) g7) oF) l8) l9), (HS.forget f9), (by simp only [oe]; rfl), (by (dsimp only; omega)), (by (dsimp only; omega)), nj, (by exact Nat.le_trans blkZ_len j1), (by exact fun m hm => blkZ_ok (j2 m hm))⟩
  ·
   try simp only [BS] at mL
   refine ab ?_
   refine wRo 1 0 [] 72 72 [] [(72, (.agg ⟨[(iI 0), (iI 0), (iI 0), (iI 0), (iI 0), (.slice none 0 0)]⟩))] trivial rfl fun _ => ?_
   refine aP (b8 dn rfl rfl) rfl rfl ?_
   rintro _ qs _ ⟨aq, rfl, gj, _⟩
   have gj : HS _ _ _ [_, _, _, _, _, _, _, [(aq, .cells [(iI 0), (iI 0), (iI 0), (iI 0), (iI 0), (.slice none 0 0)] none false)]] _ := gj
   refine wa (.pointer (some ⟨aq, 0, none⟩)) rfl rfl rfl ?_
   refine ai 2 rfl ?_
   refine ab ?_
   refine wm (.pointer (some ⟨b6, 0, none⟩)) rfl rfl rfl ?_
   refine aC (aw rfl rfl rfl) rfl rfl (m4.cL ex (⟨how⟩ : DigT) (40) (HS.callOwn gj (i := 2) rfl) (by omega) (by omega) hT (by omega)) ?_
   rintro _ qt ⟨I, lT, qa, dt, c4, rfl, o3, qZ⟩
   replace c4 := HS.backOwn gj (i := 2) rfl rfl (fun _ hb => hb) c4
   have c4 : HS _ _ _ [_, _, [(b6, .cells [(iI lT.n)] none false)], _, _, _, _, _] _ := c4
   replace hT := hT.mono dt
   refine wRo 2 2 [] 76 76 [13] [(13, (iI (I - 2)))] (vA (vi (n := I - 2) (by omega)) trivial) rfl fun _ => ?_
   refine ai 3 rfl ?_
   refine ab ?_
   refine wm (.pointer (some ⟨b6, 0, none⟩)) rfl rfl rfl ?_
   refine aC (aw rfl rfl rfl) rfl rfl (m4.cL ex (⟨lT.n⟩ : DigT) (14) (HS.callOwn c4 (i := 2) rfl) (by omega) (by omega) hT (by omega)) ?_
   rintro _ qu ⟨T, lU, a4, dv, d2, rfl, o4, q0⟩
   replace d2 := HS.backOwn c4 (i := 2) rfl rfl (fun _ hb => hb) d2
   have d2 : HS _ _ _ [_, _, [(b6, .cells [(iI lU.n)] none false)], _, _, _, _, _] _ := d2
   replace hT := hT.mono dv
   replace b7 := (b7.mono dt).mono dv
   replace E := (E.mono dt).mono dv
   refine wa (iI T) rfl rfl rfl ?_
   refine ai 3 rfl ?_
   refine wR 1 [] 79 81 [] [(79, (.bool (T == 0)))] trivial rfl fun _ => ?_
   obtain ⟨ar, U, V⟩ := SF.shut0 mX (fT (dt) dv) d2 (q := 5) (m := 6) (by decide) rfl rfl b7
   have U : HS _ _ _ [_, _, _, _, _, ar, [], _] _ := U
   have pE := FAM.len V
   refine dp (fun f H' => ∃ (a8 : List BlkH) (em : List (List VInT)) (pq : Int) (rq : Int) (mF : Int) (mG : Int) (mH : Int) (mI : Int) (mJ : Int) (bva : List Int) (b4 : Fp) (ag : Option Addr) (ap : Nat) (b0 : Option Addr) (b2 : Nat) (c5 : Fp) (F' : Fz), Fz.le a4 F' ∧ HS (Base.of H []) F' H' [hh, hj, [(b6, .cells [(iI lU.n)] none false)], [(b9, .cells [(iI pq), (iI rq), (.slice ag a8.length ap)] none false)], b4, c5, [], [(aq, .cells [(iI mF), (iI mG), (iI mH), (iI mI), (iI mJ), (.slice b0 bva.length b2)] none false)]] R ∧ OS F' (.slice ag a8.length ap) a8 b4 ∧ SR F' (.slice b0 bva.length b2) bva ∧ SF F' a8 em c5 ∧ aS f [(6, (.pointer (some ⟨b3, 0, none⟩))), (8, (.pointer (some ⟨b9, 0, none⟩)))] ∧ (in64 pq ∧ in64 rq) ∧ (a8.length ≤ 1000) ∧ (∀ m, (∀ j, okI m (c.blocks.getD j default).ins) → ∀ y ∈ em, okI (m + 1) y)) (fun av => ?_) ?_
   ·
    refine aj 0 1 (v := (T == 0)) rfl rfl rfl rfl (fun k7 => ?_) (fun k7 => ?_)
    ·
     try simp only [BS] at k7
     refine ab ?_
     refine wRo 2 0 [] 82 83 [] [(82, (iI (I - 2))), (83, (.pointer (some ⟨b9, 0, none⟩)))] trivial rfl fun _ => ?_
     refine aD (ax (q := 3) U rfl rfl rfl rfl rfl rfl rfl rfl rfl) rfl ?_
     rintro _ qw _ ⟨hX, _⟩
     have hX : HS _ _ _ [_, _, _, [(b9, .cells [(iI (I - 2)), (iI c.regs), (.slice z hv.length A)] none false)], _, _, _, _] _ := hX
     refine ai 0 rfl ?_
     exact av _ _ ⟨hv, lv, I - 2, c.regs, 0, 0, 0, 0, 0, ([] : List Int), J, z, A, none, 0, ar, _, fR, hX, E, (SR.nil : SR a4 (.slice none 0 0) ([] : List Int)), V, ⟨rfl, rfl, trivial⟩, (by omega), (by omega), (by exact fun m hm => by exact jk (e4 m hm))⟩
    ·
     try simp only [BS] at k7
     refine wR 1 [] 84 86 [] [(84, (.bool (T == 1)))] trivial rfl fun _ => ?_
     refine aj 0 1 (v := (T == 1)) rfl rfl rfl rfl (fun k8 => ?_) (fun k8 => ?_)
     ·
      try simp only [BS] at k8
      refine ab ?_
      refine wRo 2 0 [] 87 88 [] [(87, (iI (I - 2))), (88, (.pointer (some ⟨b9, 1, none⟩)))] trivial rfl fun _ => ?_
      refine aD (ax (q := 3) U rfl rfl rfl rfl rfl rfl rfl rfl rfl) rfl ?_
      rintro _ qx _ ⟨hY, _⟩
      have hY : HS _ _ _ [_, _, _, [(b9, .cells [(iI c.params), (iI (I - 2)), (.slice z hv.length A)] none false)], _, _, _, _] _ := hY
      refine ai 0 rfl ?_
      exact av _ _ ⟨hv, lv, c.params, I - 2, 0, 0, 0, 0, 0, ([] : List Int), J, z, A, none, 0, ar, _, fR, hY, E, (SR.nil : SR a4 (.slice none 0 0) ([] : List Int)), V, ⟨rfl, rfl, trivial⟩, (by omega), (by omega), (by exact fun m hm => by exact jk (e4 m hm))⟩
     ·
      try simp only [BS] at k8
      refine wR 1 [] 89 91 [] [(89, (.bool (T == 2)))] trivial rfl fun _ => ?_
      refine aj 0 1 (v := (T == 2)) rfl rfl rfl rfl (fun k9 => ?_) (fun k9 => ?_)
      ·
       try simp only [BS] at k9
       refine ab ?_
       refine wRo 4 0 [] 92 95 [] [(93, (iI (I - 2))), (95, (.pointer (some ⟨sB (.slice z hv.length A), sO (.slice z hv.length A) + ii * Rp.sz BlkH + 1, none⟩)))] trivial rfl fun _ => ?_
       have nZ := SF.put (⟨(hv.getD ii default).h, I - 2, (hv.getD ii default).reg, (hv.getD ii default).tgt, (hv.getD ii default).els⟩ : BlkH) V (i := ii) rfl
       refine aD (de (α := BlkH) (j := ii) (off := 1) (q := 4) (⟨(hv.getD ii default).h, I - 2, (hv.getD ii default).reg, (hv.getD ii default).tgt, (hv.getD ii default).els⟩ : BlkH) E U rfl rfl rfl rfl rfl rfl rfl rfl (aI (x := default) (by omega)) rfl (by rintro cs ⟨rfl, a0, a1, a2, a3⟩; exact ⟨Nat.le_of_ble_eq_true rfl, ⟨rfl, by (dsimp only; omega), a1, a2, a3⟩⟩)) rfl ?_
       rintro _ qy nw ⟨ms, h1, _⟩
       have h1 : HS _ _ _ [_, _, _, _, nw, _, _, _] _ := h1
       have pm := OS.len' ms
       refine ai 0 rfl ?_
       exact av _ _ ⟨hv.set ii (⟨(hv.getD ii default).h, I - 2, (hv.getD ii default).reg, (hv.getD ii default).tgt, (hv.getD ii default).els⟩ : BlkH), lv, c.params, c.regs, 0, 0, 0, 0, 0, ([] : List Int), nw, z, A, none, 0, ar, _, fR, (by simpa only [List.length_set, List.length_nil] using h1), (OS.norm ms), (SR.nil : SR a4 (.slice none 0 0) ([] : List Int)), nZ, ⟨rfl, rfl, trivial⟩, (by omega), (by omega), (by exact fun m hm => by exact jk (e4 m hm))⟩
      ·
       try simp only [BS] at k9
       refine wR 1 [] 96 98 [] [(96, (.bool (T == 3)))] trivial rfl fun _ => ?_
       refine aj 0 1 (v := (T == 3)) rfl rfl rfl rfl (fun la => ?_) (fun la => ?_)
       ·
        try simp only [BS] at la
        refine ab ?_
        refine wRo 4 0 [] 99 102 [] [(100, (iI (I - 2))), (102, (.pointer (some ⟨sB (.slice z hv.length A), sO (.slice z hv.length A) + ii * Rp.sz BlkH + 2, none⟩)))] trivial rfl fun _ => ?_
        have n1 := SF.put (⟨(hv.getD ii default).h, (hv.getD ii default).fin, I - 2, (hv.getD ii default).tgt, (hv.getD ii default).els⟩ : BlkH) V (i := ii) rfl
        refine aD (de (α := BlkH) (j := ii) (off := 2) (q := 4) (⟨(hv.getD ii default).h, (hv.getD ii default).fin, I - 2, (hv.getD ii default).tgt, (hv.getD ii default).els⟩ : BlkH) E U rfl rfl rfl rfl rfl rfl rfl rfl (aI (x := default) (by omega)) rfl (by rintro cs ⟨rfl, a0, a1, a2, a3⟩; exact ⟨Nat.le_of_ble_eq_true rfl, ⟨rfl, a0, by (dsimp only; omega), a2, a3⟩⟩)) rfl ?_
        rintro _ qz nx ⟨mu, h2, _⟩
        have h2 : HS _ _ _ [_, _, _, _, nx, _, _, _] _ := h2
        have po := OS.len' mu
        refine ai 0 rfl ?_
        exact av _ _ ⟨hv.set ii (⟨(hv.getD ii default).h, (hv.getD ii default).fin, I - 2, (hv.getD ii default).tgt, (hv.getD ii default).els⟩ : BlkH), lv, c.params, c.regs, 0, 0, 0, 0, 0, ([] : List Int), nx, z, A, none, 0, ar, _, fR, (by simpa only [List.length_set, List.length_nil] using h2), (OS.norm mu), (SR.nil : SR a4 (.slice none 0 0) ([] : List Int)), n1, ⟨rfl, rfl, trivial⟩, (by omega), (by omega), (by exact fun m hm => by exact jk (e4 m hm))⟩
       ·
        try simp only [BS] at la
        refine wR 1 [] 103 105 [] [(103, (.bool (T == 4)))] trivial rfl fun _ => ?_
        refine aj 0 1 (v := (T == 4)) rfl rfl rfl rfl (fun ld => ?_) (fun ld => ?_)
        ·
         try simp only [BS] at ld
         refine ab ?_
         refine wRo 4 0 [] 106 109 [] [(107, (iI (I - 2))), (109, (.pointer (some ⟨sB (.slice z hv.length A), sO (.slice z hv.length A) + ii * Rp.sz BlkH + 3, none⟩)))] trivial rfl fun _ => ?_
         have n2 := SF.put (⟨(hv.getD ii default).h, (hv.getD ii default).fin, (hv.getD ii default).reg, I - 2, (hv.getD ii default).els⟩ : BlkH) V (i := ii) rfl
         refine aD (de (α := BlkH) (j := ii) (off := 3) (q := 4) (⟨(hv.getD ii default).h, (hv.getD ii default).fin, (hv.getD ii default).reg, I - 2, (hv.getD ii default).els⟩ : BlkH) E U rfl rfl rfl rfl rfl rfl rfl rfl (aI (x := default) (by omega)) rfl (by rintro cs ⟨rfl, a0, a1, a2, a3⟩; exact ⟨Nat.le_of_ble_eq_true rfl, ⟨rfl, a0, a1, by (dsimp only; omega), a3⟩⟩)) rfl ?_
         rintro _ qA ny ⟨mv, h3, _⟩
         have h3 : HS _ _ _ [_, _, _, _, ny, _, _, _] _ := h3
         have pr := OS.len' mv
         refine ai 0 rfl ?_
         exact av _ _ ⟨hv.set ii (⟨(hv.getD ii default).h, (hv.getD ii default).fin, (hv.getD ii default).reg, I - 2, (hv.getD ii default).els⟩ : BlkH), lv, c.params, c.regs, 0, 0, 0, 0, 0, ([] : List Int), ny, z, A, none, 0, ar, _, fR, (by simpa only [List.length_set, List.length_nil] using h3), (OS.norm mv), (SR.nil : SR a4 (.slice none 0 0) ([] : List Int)), n2, ⟨rfl, rfl, trivial⟩, (by omega), (by omega), (by exact fun m hm => by exact jk (e4 m hm))⟩
        ·
         try simp only [BS] at ld
         refine wR 1 [] 110 112 [] [(110, (.bool (T == 5)))] trivial rfl fun _ => ?_
         refine aj 0 1 (v := (T == 5)) rfl rfl rfl rfl (fun lf => ?_) (fun lf => ?_)
         ·
          try simp only [BS] at lf
          refine ab ?_
          refine wRo 4 0 [] 113 116 [] [(114, (iI (I - 2))), (116, (.pointer (some ⟨sB (.slice z hv.length A), sO (.slice z hv.length A) + ii * Rp.sz BlkH + 4, none⟩)))] trivial rfl fun _ => ?_
          have n3 := SF.put (⟨(hv.getD ii default).h, (hv.getD ii default).fin, (hv.getD ii default).reg, (hv.getD ii default).tgt, I - 2⟩ : BlkH) V (i := ii) rfl
          refine aD (de (α := BlkH) (j := ii) (off := 4) (q := 4) (⟨(hv.getD ii default).h, (hv.getD ii default).fin, (hv.getD ii default).reg, (hv.getD ii default).tgt, I - 2⟩ : BlkH) E U rfl rfl rfl rfl rfl rfl rfl rfl (aI (x := default) (by omega)) rfl (by rintro cs ⟨rfl, a0, a1, a2, a3⟩; exact ⟨Nat.le_of_ble_eq_true rfl, ⟨rfl, a0, a1, a2, by (dsimp only; omega)⟩⟩)) rfl ?_
          rintro _ qB nz ⟨mw, h4, _⟩
          have h4 : HS _ _ _ [_, _, _, _, nz, _, _, _] _ := h4
          have pt := OS.len' mw
          refine ai 0 rfl ?_
          exact av _ _ ⟨hv.set ii (⟨(hv.getD ii default).h, (hv.getD ii default).fin, (hv.getD ii default).reg, (hv.getD ii default).tgt, I - 2⟩ : BlkH), lv, c.params, c.regs, 0, 0, 0, 0, 0, ([] : List Int), nz, z, A, none, 0, ar, _, fR, (by simpa only [List.length_set, List.length_nil] using h4), (OS.norm mw), (SR.nil : SR a4 (.slice none 0 0) ([] : List Int)), n3, ⟨rfl, rfl, trivial⟩, (by omega), (by omega), (by exact fun m hm => by exact jk (e4 m hm))⟩
         ·
          try simp only [BS] at lf
          refine wR 1 [] 117 119 [] [(117, (.bool (T == 6)))] trivial rfl fun _ => ?_
          refine aj 0 1 (v := (T == 6)) rfl rfl rfl rfl (fun lh => ?_) (fun lh => ?_)
          ·
           try simp only [BS] at lh
           refine ab ?_
           refine wRo 5 0 [] 120 124 [] [(121, (iI (I - 2))), (124, (.pointer (some ⟨aq, 0, none⟩)))] trivial rfl fun _ => ?_
           refine aD (ax (q := 7) U rfl rfl rfl rfl rfl rfl rfl rfl rfl) rfl ?_
           rintro _ qC _ ⟨h5, _⟩
           have h5 : HS _ _ _ [_, _, _, _, _, _, _, [(aq, .cells [(iI (I - 2)), (iI 0), (iI 0), (iI 0), (iI 0), (.slice none 0 0)] none false)]] _ := h5
           refine ai 0 rfl ?_
           exact av _ _ ⟨hv, lv, c.params, c.regs, I - 2, 0, 0, 0, 0, ([] : List Int), J, z, A, none, 0, ar, _, fR, h5, E, (SR.nil : SR a4 (.slice none 0 0) ([] : List Int)), V, ⟨rfl, rfl, trivial⟩, (by omega), (by omega), (by exact fun m hm => by exact jk (e4 m hm))⟩
          ·
           try simp only [BS] at lh
           refine wR 1 [] 125 127 [] [(125, (.bool (T == 7)))] trivial rfl fun _ => ?_
           refine aj 0 1 (v := (T == 7)) rfl rfl rfl rfl (fun lj => ?_) (fun lj => ?_)
           ·
            try simp only [BS] at lj
            refine ab ?_
            refine wRo 5 0 [] 128 132 [] [(129, (iI (I - 2))), (132, (.pointer (some ⟨aq, 1, none⟩)))] trivial rfl fun _ => ?_
            refine aD (ax (q := 7) U rfl rfl rfl rfl rfl rfl rfl rfl rfl) rfl ?_
            rintro _ qD _ ⟨h6, _⟩
            have h6 : HS _ _ _ [_, _, _, _, _, _, _, [(aq, .cells [(iI 0), (iI (I - 2)), (iI 0), (iI 0), (iI 0), (.slice none 0 0)] none false)]] _ := h6
            refine ai 0 rfl ?_
            exact av _ _ ⟨hv, lv, c.params, c.regs, 0, I - 2, 0, 0, 0, ([] : List Int), J, z, A, none, 0, ar, _, fR, h6, E, (SR.nil : SR a4 (.slice none 0 0) ([] : List Int)), V, ⟨rfl, rfl, trivial⟩, (by omega), (by omega), (by exact fun m hm => by exact jk (e4 m hm))⟩
           ·
            try simp only [BS] at lj
            refine wR 1 [] 133 135 [] [(133, (.bool (T == 8)))] trivial rfl fun _ => ?_
            refine aj 0 1 (v := (T == 8)) rfl rfl rfl rfl (fun ll => ?_) (fun ll => ?_)
            ·
             try simp only [BS] at ll
             refine ab ?_
             refine wRo 5 0 [] 136 140 [] [(137, (iI (I - 2))), (140, (.pointer (some ⟨aq, 2, none⟩)))] trivial rfl fun _ => ?_
             refine aD (ax (q := 7) U rfl rfl rfl rfl rfl rfl rfl rfl rfl) rfl ?_
             rintro _ qE _ ⟨h7, _⟩
             have h7 : HS _ _ _ [_, _, _, _, _, _, _, [(aq, .cells [(iI 0), (iI 0), (iI (I - 2)), (iI 0), (iI 0), (.slice none 0 0)] none false)]] _ := h7
             refine ai 0 rfl ?_
             exact av _ _ ⟨hv, lv, c.params, c.regs, 0, 0, I - 2, 0, 0, ([] : List Int), J, z, A, none, 0, ar, _, fR, h7, E, (SR.nil : SR a4 (.slice none 0 0) ([] : List Int)), V, ⟨rfl, rfl, trivial⟩, (by omega), (by omega), (by exact fun m hm => by exact jk (e4 m hm))⟩
            ·
             try simp only [BS] at ll
             refine wR 1 [] 141 143 [] [(141, (.bool (T == 9)))] trivial rfl fun _ => ?_
             refine aj 0 1 (v := (T == 9)) rfl rfl rfl rfl (fun lm => ?_) (fun lm => ?_)
             ·
              try simp only [BS] at lm
              refine ab ?_
              refine wRo 5 0 [] 144 148 [] [(145, (iI (I - 2))), (148, (.pointer (some ⟨aq, 3, none⟩)))] trivial rfl fun _ => ?_
              refine aD (ax (q := 7) U rfl rfl rfl rfl rfl rfl rfl rfl rfl) rfl ?_
              rintro _ qF _ ⟨h8, _⟩
              have h8 : HS _ _ _ [_, _, _, _, _, _, _, [(aq, .cells [(iI 0), (iI 0), (iI 0), (iI (I - 2)), (iI 0), (.slice none 0 0)] none false)]] _ := h8
              refine ai 0 rfl ?_
              exact av _ _ ⟨hv, lv, c.params, c.regs, 0, 0, 0, I - 2, 0, ([] : List Int), J, z, A, none, 0, ar, _, fR, h8, E, (SR.nil : SR a4 (.slice none 0 0) ([] : List Int)), V, ⟨rfl, rfl, trivial⟩, (by omega), (by omega), (by exact fun m hm => by exact jk (e4 m hm))⟩
             ·
              try simp only [BS] at lm
              refine wR 1 [] 149 151 [] [(149, (.bool (T == 10)))] trivial rfl fun _ => ?_
              refine aj 0 1 (v := (T == 10)) rfl rfl rfl rfl (fun ln => ?_) (fun ln => ?_)
              ·
               try simp only [BS] at ln
               refine ab ?_
               refine wRo 2 0 [] 152 153 [] [(152, (.pointer (some ⟨aq, 0, none⟩))), (153, (iI (I - 2)))] trivial rfl fun _ => ?_
               refine aC (aw rfl rfl rfl) rfl rfl (m4.word_c ex (I - 2) (1099511627776) (HS.call U) (by omega) (by omega) hT) ?_
               rintro _ qG ⟨nD, oy, hk, ea, rfl, q1⟩
               replace ea := HS.back U rfl ea
               have ea : HS _ _ _ [_, _, _, _, _, _, _, _] _ := ea
               replace E := E.mono hk
               replace V := SF.mono hk V
               refine wRo 3 3 [] 155 157 [] [(157, (.pointer (some ⟨aq, 4, none⟩)))] trivial rfl fun _ => ?_
               refine aD (ax (q := 7) ea rfl rfl rfl rfl rfl rfl rfl rfl rfl) rfl ?_
               rintro _ qH _ ⟨ih, _⟩
               have ih : HS _ _ _ [_, _, _, _, _, _, _, [(aq, .cells [(iI 0), (iI 0), (iI 0), (iI 0), (iI nD), (.slice none 0 0)] none false)]] _ := ih
               refine ai 0 rfl ?_
               exact av _ _ ⟨hv, lv, c.params, c.regs, 0, 0, 0, 0, nD, ([] : List Int), J, z, A, none, 0, ar, _, (hk), ih, E, (SR.nil : SR oy (.slice none 0 0) ([] : List Int)), V, ⟨rfl, rfl, trivial⟩, (by omega), (by omega), (by exact fun m hm => by exact jk (e4 m hm))⟩
              ·
               try simp only [BS] at ln
               refine wR 1 [] 158 160 [] [(158, (.bool (T == 11)))] trivial rfl fun _ => ?_
               refine aj 0 1 (v := (T == 11)) rfl rfl rfl rfl (fun lp => ?_) (fun lp => ?_)
               ·
                try simp only [BS] at lp
                refine ab ?_
                refine wRo 5 0 [(4, .o (.slice none 0 0))] 161 165 [] [(161, (.pointer (some ⟨aq, 0, none⟩))), (165, (.slice none 0 0))] (vA (ql 25 5 (HS.hc U (i := 7) rfl) rfl rfl) trivial) rfl fun _ => ?_
                have g1 := HS.snoc U
                have g1 : HS _ _ _ [_, _, _, _, _, _, _, _, []] _ := g1
                refine aP (cT (α := Int) (q := 8) (OS.nil : OS a4 (.slice none 0 0) ([] : List Int) []) g1 rfl rfl rfl (SR.sv (SR.nil : SR a4 _ (([] : List Int))) g1) rfl rfl rfl rfl rfl rfl rfl (by (simp only [List.length_nil]; first | omega | (have hq := eM (i := kk) (dg (i := ii) e2); omega)))) rfl rfl ?_
                rintro _ qI nA ⟨oB, oR, rfl, hr, ik, _⟩
                have ik : HS _ _ _ [_, _, _, _, _, _, _, _, nA] _ := ik
                have hr : OS a4 (.slice oB ([] : List Int).length oR) ([] : List Int) nA := hr
                refine wm (iI (I - 2)) rfl rfl rfl ?_
                refine aP (bZ (α := Int) (ps := [(0, (iI (I - 2)))]) (cells := [(iI (I - 2))]) ([I - 2] : List Int) ik rfl rfl rfl (by kernel_rfl) ⟨[(iI (I - 2))], [], rfl, ⟨rfl, by omega⟩, rfl⟩ rfl) rfl rfl ?_
                rintro _ qJ o0 ⟨qP, q6, rfl, n6, g2, _⟩
                have g2 : HS _ _ _ [_, _, _, _, _, _, _, _, _, o0] _ := g2
                refine aP (cT (α := Int) (q := 8) hr g2 rfl rfl rfl (OS.sv n6 g2 (i := 9) rfl) rfl rfl rfl rfl rfl rfl rfl (by (simp only [List.length_cons, List.length_nil]; first | omega | (have hq := eM (i := kk) (dg (i := ii) e2); omega)))) rfl rfl ?_
                rintro _ qK nB ⟨kt, lP, rfl, ht, iv, _⟩
                have iv : HS _ _ _ [_, _, _, _, _, _, _, _, nB, _] _ := iv
                have ht : OS a4 (.slice kt ([I - 2] : List Int).length lP) ([I - 2] : List Int) nB := ht
                refine wRo 2 9 [] 170 171 [] [(171, (.pointer (some ⟨aq, 5, none⟩)))] trivial rfl fun _ => ?_
                refine aD (ax (q := 7) iv rfl rfl rfl rfl rfl rfl rfl rfl rfl) rfl ?_
                rintro _ qL _ ⟨i1, _⟩
                have i1 : HS _ _ _ [_, _, _, _, _, _, _, [(aq, .cells [(iI 0), (iI 0), (iI 0), (iI 0), (iI 0), (.slice kt ([I - 2] : List Int).length lP)] none false)], _, _] _ := i1
                refine ai 0 rfl ?_
                obtain ⟨qc, hl, i2, oc, pZ⟩ := OS.frz ht i1 (i := 8) rfl
                have i2 : HS _ _ _ [_, _, _, _, _, _, _, _, [], _] _ := i2
                replace E := E.mono hl
                replace V := SF.mono hl V
                exact av _ _ ⟨hv, lv, c.params, c.regs, 0, 0, 0, 0, 0, ([I - 2] : List Int), J, z, A, kt, lP, ar, _, (hl), (HS.sub i2 (List.sublist_append_left _ _)), E, oc, V, ⟨rfl, rfl, trivial⟩, (by omega), (by omega), (by exact fun m hm => by exact jk (e4 m hm))⟩
               ·
                try simp only [BS] at lp
                refine wR 1 [] 172 174 [] [(172, (.bool (T == 12)))] trivial rfl fun _ => ?_
                refine aj 0 0 (v := (T == 12)) rfl rfl rfl rfl (fun lq => ?_) (fun lq => ?_)
                ·
                 try simp only [BS] at lq
                 refine ab ?_
                 refine wRo 8 0 [(1, .o (.slice z hv.length A)), (4, .o (.slice z hv.length A))] 175 182 [] [(176, (.slice z hv.length A)), (182, (iI (if (if (hv.length : Int) < I - 2 then (hv.length : Int) else I - 2) > (0 : Int) then (if (hv.length : Int) < I - 2 then (hv.length : Int) else I - 2) else (0 : Int))))] (vA (ql 22 2 (HS.hc U (i := 3) rfl) rfl rfl) (vA (ql 22 2 (HS.hc U (i := 3) rfl) rfl rfl) trivial)) rfl fun _ => ?_
                 refine aP (kB (α := BlkH) (j := (if (if (hv.length : Int) < I - 2 then (hv.length : Int) else I - 2) > (0 : Int) then (if (hv.length : Int) < I - 2 then (hv.length : Int) else I - 2) else (0 : Int)).toNat) E U (q := 4) rfl rfl rfl rfl (optN (by omega)) (by omega)) rfl rfl ?_
                 rintro _ _ _ ⟨mD, nt, rfl, e6, n8⟩
                 simp only at e6; replace e6 := e6.symm; subst e6
                 obtain ⟨l7, nQ, nJ, ml⟩ := FAM.take (if (if (hv.length : Int) < I - 2 then (hv.length : Int) else I - 2) > (0 : Int) then (if (hv.length : Int) < I - 2 then (hv.length : Int) else I - 2) else (0 : Int)).toNat V
                 have i3 := HS.open U (i := 5) rfl (List.Perm.of_eq nJ)
                 have i3 : HS _ _ _ [_, _, _, _, _, l7, _, _, nQ] _ := i3
                 have pF := FAM.len ml
                 refine wRo 1 9 [] 184 184 [] [(184, (.pointer (some ⟨b9, 2, none⟩)))] trivial rfl fun _ => ?_
                 refine aD (ax (q := 3) i3 rfl rfl rfl rfl rfl rfl rfl rfl rfl) rfl ?_
                 rintro _ qM _ ⟨jq, _⟩
                 have jq : HS _ _ _ [_, _, _, [(b9, .cells [(iI c.params), (iI c.regs), (.slice mD (hv.take (if (if (hv.length : Int) < I - 2 then (hv.length : Int) else I - 2) > (0 : Int) then (if (hv.length : Int) < I - 2 then (hv.length : Int) else I - 2) else (0 : Int)).toNat).length nt)] none false)], _, _, _, _, _] _ := jq
                 refine ai 0 rfl ?_
                 exact av _ _ ⟨hv.take (if (if (hv.length : Int) < I - 2 then (hv.length : Int) else I - 2) > (0 : Int) then (if (hv.length : Int) < I - 2 then (hv.length : Int) else I - 2) else (0 : Int)).toNat, lv.take (if (if (hv.length : Int) < I - 2 then (hv.length : Int) else I - 2) > (0 : Int) then (if (hv.length : Int) < I - 2 then (hv.length : Int) else I - 2) else (0 : Int)).toNat, c.params, c.regs, 0, 0, 0, 0, 0, ([] : List Int), J, mD, nt, none, 0, l7, _, fR, (HS.sub jq (List.sublist_append_left _ _)), n8, (SR.nil : SR a4 (.slice none 0 0) ([] : List Int)), ml, ⟨rfl, rfl, trivial⟩, (by omega), (by (simp; omega)), (by exact fun m hm => by exact jk (fun y hy => e4 m hm y (List.mem_of_mem_take hy)))⟩
                ·
                 try simp only [BS] at lq
                 exact av _ _ ⟨hv, lv, c.params, c.regs, 0, 0, 0, 0, 0, ([] : List Int), J, z, A, none, 0, ar, _, fR, U, E, (SR.nil : SR a4 (.slice none 0 0) ([] : List Int)), V, ⟨rfl, rfl, trivial⟩, (by omega), (by omega), (by exact fun m hm => by exact jk (e4 m hm))⟩
   ·
    rintro qS qv ⟨a8, em, pq, rq, mF, mG, mH, mI, mJ, bva, b4, ag, ap, b0, b2, c5, qb, nW, mz, ci, oh, hg, mj, j0, j1, j2⟩
    refine aF _ mj (fun _ => ?_)
    clear mj
    have oC := FAM.len hg
    refine ao 3 rfl ?_
    refine ab ?_
    let nH : Value := (.agg ⟨[(iI pq), (iI rq), (.slice ag a8.length ap)]⟩)
    refine wRo 1 0 [(0, .o nH)] 185 185 [] [(185, nH)] (vA (qn 24 0 3 (HS.hc mz (i := 3) rfl) rfl rfl rfl rfl) trivial) rfl fun _ => ?_
    refine aD (ax (q := 1) mz rfl rfl rfl rfl rfl rfl rfl rfl rfl) rfl ?_
    rintro _ qN _ ⟨kd, _⟩
    have kd : HS _ _ _ [_, [(b3, .cells [(iI pq), (iI rq), (.slice ag a8.length ap)] none false)], _, [(b9, .cells [(iI pq), (iI rq), (.slice ag a8.length ap)] none false)], b4, c5, _, [(aq, .cells [(iI mF), (iI mG), (iI mH), (iI mI), (iI mJ), (.slice b0 bva.length b2)] none false)]] _ := kd
    refine ai 1 rfl ?_
    obtain ⟨qd, ma, ki, nY⟩ := SF.freeze hg kd (q := 5) rfl
    have ki : HS _ _ _ [_, _, _, _, _, [], _, _] _ := ki
    replace ci := ci.mono ma
    obtain ⟨qe, mb, g3, od, p0⟩ := OS.frz ci ki (i := 4) rfl
    have g3 : HS _ _ _ [_, _, _, _, [], _, _, _] _ := g3
    have my := blkH_rows od (by omega) (fun i hi => SR.mono mb (nY i hi))
    have og := SR.len' my
    have nk := SR.norm my
    refine ah ⟨.inr rfl, _, (rC rfl (ldVN rfl rfl (HS.hc g3 (i := 1) rfl) rfl) rN), (⟨pq, rq, (blkZ a8 em)⟩ : VFnT), ag, ap, _, (fT (fT (fT (fT (fT (g5) dt) dv) nW) ma) mb), (HS.forget g3), (by simp only [og]; rfl), (by (dsimp only; omega)), (by (dsimp only; omega)), nk, (by exact Nat.le_trans blkZ_len j1), (by exact fun m hm => blkZ_ok (j2 m hm))⟩
end Go.Proofs.YtlabedbmgmfbaaaDoor.m9
