/-
 The generator that changes one detail of a function: what it makes is some function of bounded size. No condition but bounds on lengths.
-/
import Derived.Test.YtknafdcgpaejlaaDoorZGM6
noncomputable section
namespace Go.Proofs.YtknafdcgpaejlaaDoor.m9
open Go.R
set_option maxRecDepth 10000
set_option linter.unusedVariables false
set_option linter.unusedSimpArgs false
variable (ex : FuncId) {F : Fz} {H : Heap} {R : List Fp}
open m1 m2 m3 m4 m5 m6
structure BlkH where
 h : Hd
 fin : Int
 reg : Int
 tgt : Int
 els : Int
 deriving Inhabited
instance : Rp BlkH where
 sz := 5
 rep F cs x := cs = [.slice x.h.a x.h.n x.h.k, .int .i64 x.fin, .int .i64 x.reg, .int .i64 x.tgt, .int .i64 x.els] ∧ in64 x.fin ∧ in64 x.reg ∧ in64 x.tgt ∧ in64 x.els
 len := by rintro F cs x ⟨rfl, _⟩; rfl
 one := by rintro F cs x ⟨rfl, _⟩; rfl
 mono := by intro F F' cs x _ h; exact h
theorem BlkH.vw {F : Fz} {get : Nat → Option AObj} {v : Value} {cf : Nat → List Value} {j : Nat} {l : List BlkH} (h : VW F get v l cf j) (hj : j < l.length) : HC get (sB v) (sO v + j * Rp.sz BlkH) [.slice (l.getD j default).h.a (l.getD j default).h.n (l.getD j default).h.k, .int .i64 (l.getD j default).fin, .int .i64 (l.getD j default).reg, .int .i64 (l.getD j default).tgt, .int .i64 (l.getD j default).els] := by
 obtain ⟨⟨A, _⟩, z⟩ := h.1 default hj
 rw [show cf j = _ from A] at z; exact z
theorem BlkH.fx {F : Fz} {get : Nat → Option AObj} {v : Value} {cf : Nat → List Value} {j : Nat} {l : List BlkH} (h : VW F get v l cf j) : in64 (l.getD j default).fin ∧ in64 (l.getD j default).reg ∧ in64 (l.getD j default).tgt ∧ in64 (l.getD j default).els := by
 rcases a0k j l.length with hj | hj
 ·
  obtain ⟨⟨J, h0, z, A, E⟩, _⟩ := h.1 default hj
  exact ⟨h0, z, A, E⟩
 rw [cr hj]; exact ⟨by decide, by decide, by decide, by decide⟩
instance : HasHd BlkH := ⟨fun h => h.h⟩
def blkZ (hs : List BlkH) (ls : List (List VInT)) : List BlkT := List.zipWith (fun h l => ⟨l, h.fin, h.reg, h.tgt, h.els⟩) hs ls
theorem blkH_rows {F : Fz} {v : Value} {hs : List BlkH} {ls : List (List VInT)} (h : SR F v hs) (hl : hs.length ≤ ls.length) (k : ∀ i, i < ls.length → SR F (HasHd.hd (hs.getD i default)).v (ls.getD i [])) : SR F v (blkZ hs ls) := by
 refine SR.conv (α := BlkH) (β := BlkT) rfl h (by unfold blkZ; rw [List.length_zipWith]; omega) F.le_refl fun i x y hx hy c hc => ?_
 have hi := (a0o.1 hx).1
 have k1 := k i (by omega)
 have z : hs.getD i default = x := by rw [a01, hx]; rfl
 have A : ls[i]? = some (ls.getD i []) := aK (by omega)
 rw [z] at k1
 have hn := SR.n (h := x.h) k1
 unfold blkZ at hy
 rw [List.getElem?_zipWith, hx, A] at hy
 obtain rfl := (Option.some.inj hy)
 obtain ⟨rfl, E, J, N, T⟩ := hc
 exact ⟨x.h.a, x.h.k, by rw [← hn], E, J, N, T, by rw [← hn]; exact k1⟩
def okI (m : Nat) (y : List VInT) : Prop := y.length ≤ 1000 ∧ ∀ z ∈ y, z.args.length ≤ m
theorem ok_snoc {m : Nat} {l : List (List VInT)} {x : List VInT} (h : ∀ y ∈ l, okI m y) (hx : okI m x) : ∀ y ∈ l ++ [x], okI m y := fun y hy => by
 rcases a09.1 hy with hy | hy
 ·
  exact h y hy
 rw [a0e] at hy; rw [hy]; exact hx
theorem aG {m i : Nat} {l : List (List VInT)} (h : ∀ y ∈ l, okI m y) : okI m (l.getD i default) := by
 rw [a01]
 rcases hi : l[i]? with _ | y
 ·
  exact ⟨a0B _, fun z hz => by cases hz⟩
 exact h y (a0m hi)
theorem aQ {m i : Nat} {y : List VInT} (h : okI m y) : (y.getD i default).args.length ≤ m := by
 rw [a01]
 rcases hi : y[i]? with _ | z
 ·
  exact a0B _
 exact h.2 z (a0m hi)
theorem da {m : Nat} {l : List (List VInT)} (h : ∀ y ∈ l, okI m y) : ∀ y ∈ l, okI (m + 1) y := fun y hy => ⟨(h y hy).1, fun z hz => a0l ((h y hy).2 z hz)⟩
theorem aS {m ii i : Nat} {l : List (List VInT)} {z : VInT} (h : ∀ y ∈ l, okI m y) (hz : z.args.length ≤ m + 1) : ∀ y ∈ l.set ii ((l.getD ii default).set i z), okI (m + 1) y := fun y hy => by
 rcases List.mem_or_eq_of_mem_set hy with hy | hy
 ·
  exact da h y hy
 subst hy
 have A := aG (i := ii) h
 refine ⟨by rw [a0i]; exact A.1, fun w hw => ?_⟩
 rcases List.mem_or_eq_of_mem_set hw with hw | hw
 ·
  exact a0l (A.2 w hw)
 subst hw; exact hz
theorem bm {m : Nat} {l : List Int} {n : Int} (h : l.length ≤ m) : (l ++ ([n] : List Int)).length ≤ m + 1 := by simp; omega
theorem blkZ_ok {m : Nat} {hs : List BlkH} {ls : List (List VInT)} (h : ∀ y ∈ ls, okI m y) (j : Nat) : okI m ((blkZ hs ls).getD j default).ins := by
 unfold blkZ
 rw [a01, List.getElem?_zipWith]
 cases hs[j]? with
 | none => exact ⟨a0B _, fun z hz => by cases hz⟩
 | some x =>
  cases hl : ls[j]? with
  | none => exact ⟨a0B _, fun z hz => by cases hz⟩
  | some y => exact h y (a0m hl)
theorem blkZ_len {hs : List BlkH} {ls : List (List VInT)} : (blkZ hs ls).length ≤ hs.length := by unfold blkZ; rw [List.length_zipWith]; omega
set_option maxHeartbeats 2000000 in
theorem mut_c {dv : Option Addr} {d1 : Nat} (c : VFnT) (how : Int) (at_ : Int) (hs : HS (.of H []) F H [] R) (ri : in64 c.params) (rj : in64 c.regs) (hl : SR F (.slice dv c.blocks.length d1) c.blocks) (hhow : in64 how) (hat_ : in64 at_) (hT : TB 37 tabC F) (hb : 1 ≤ c.blocks.length ∧ c.blocks.length ≤ 1000) (hi : ∀ j, okI 7 (c.blocks.getD j default).ins) : kKt ex 18 [(.agg ⟨[(iI c.params), (iI c.regs), (.slice dv c.blocks.length d1)]⟩), (iI how), (iI at_)] H fun v H' => ∃ (x : VFnT) (l0 : Option Addr) (mR : Nat) (F' : Fz), Fz.le F F' ∧ HS (.of H []) F' H' [] R ∧ v = .agg ⟨[.int .i64 x.params, .int .i64 x.regs, .slice l0 x.blocks.length mR]⟩ ∧ in64 x.params ∧ in64 x.regs ∧ SR F' (.slice l0 x.blocks.length mR) x.blocks ∧ (x.blocks.length ≤ 1000) ∧ (∀ m, (∀ j, okI m (c.blocks.getD j default).ins) → ∀ j, okI (m + 1) (x.blocks.getD j default).ins) := by
 refine aI Tryd.func18 rfl rfl ?_
 refine ah 1 rfl ?_
 refine aa ?_
 refine aH (bw hs rfl rfl) rfl rfl ?_
 rintro _ H2 _ ⟨b1, rfl, (pG : HS _ _ _ [[(b1, .cells [(iI c.params), (iI c.regs), (.slice dv c.blocks.length d1)] none false)]] _), _⟩
 refine aH (bp pG rfl) rfl rfl ?_
 rintro _ H4 _ ⟨b3, rfl, (pH : HS _ _ _ [_, [(b3, .cells [(iI 0), (iI 0), (.slice none 0 0)] none false)]] _), _⟩
 refine ae 2 rfl ?_
 refine aa ?_
 refine wTo 2 0 [] 15 16 [] [(16, (.agg ⟨[(iI how)]⟩))] rfl fun _ => ?_
 refine aH (bw pH rfl rfl) rfl rfl ?_
 rintro _ H7 _ ⟨b6, rfl, (mM : HS _ _ _ [_, _, [(b6, .cells [(iI how)] none false)]] _), _⟩
 refine wa (.pointer (some ⟨b6, 0, none⟩)) rfl rfl rfl ?_
 refine ae 2 rfl ?_
 refine aa ?_
 refine wRo 5 0 [(1, .o (iI c.params)), (3, .o (iI c.regs))] 18 22 [] [(22, (.agg ⟨[(iI c.params), (iI c.regs), (.slice none 0 0)]⟩))] (vA (ql 3 0 (HS.hc mM (i := 0) rfl) rfl rfl) (vA (ql 3 1 (HS.hc mM (i := 0) rfl) rfl rfl) trivial)) rfl fun _ => ?_
 refine aH (bp mM rfl) rfl rfl ?_
 rintro _ rx _ ⟨b9, rfl, (oO : HS _ _ _ [_, _, _, [(b9, .cells [(iI 0), (iI 0), (.slice none 0 0)] none false)]] _), _⟩
 refine aL (aE (q := 3) oO rfl rfl rfl rfl rfl rfl rfl rfl rfl) rfl ?_
 rintro _ ry _ ⟨(oP : HS _ _ _ [_, _, _, [(b9, .cells [(iI c.params), (iI c.regs), (.slice none 0 0)] none false)]] _), _⟩
 refine ae 3 rfl ?_
 refine wT 2 [] 1 0 [9] [(9, (iI 0))] rfl fun _ => ?_
 have kU := HS.snoc oP
 have kU : HS _ _ _ [_, _, _, _, []] _ := kU
 have kV := HS.snoc kU
 have kV : HS _ _ _ [_, _, _, _, _, []] _ := kV
 have mz : SF F ([] : List BlkH) ([] : List (List VInT)) [] := rfl
 have q6 := FAM.len mz
 let h3 : Fp := [(b1, .cells [(iI c.params), (iI c.regs), (.slice dv c.blocks.length d1)] none false)]
 let h4 : Fp := [(b3, .cells [(iI 0), (iI 0), (.slice none 0 0)] none false)]
 refine aj (fun (mm : Nat) f H' => ∃ (hv : List BlkH) (lv : List (List VInT)) (b : Nat) (T : Fp) (z : Option Addr) (A : Nat) (dn : Fp) (F' : Fz), Fz.le F F' ∧ HS (Base.of H []) F' H' [h3, h4, [(b6, .cells [(iI how)] none false)], [(b9, .cells [(iI c.params), (iI c.regs), (.slice z hv.length A)] none false)], T, dn] R ∧ OS F' (.slice z hv.length A) hv T ∧ SF F' hv lv dn ∧ aD f [(2, (iI at_)), (3, (.pointer (some ⟨b1, 0, none⟩))), (6, (.pointer (some ⟨b3, 0, none⟩))), (7, (.pointer (some ⟨b6, 0, none⟩))), (8, (.pointer (some ⟨b9, 0, none⟩))), (9, (iI (b : Int)))] ∧ mm = c.blocks.length - b ∧ (hv.length = b) ∧ (∀ y ∈ lv, okI 7 y) ∧ (b ≤ c.blocks.length) ∧ (∀ m, (∀ j, okI m (c.blocks.getD j default).ins) → ∀ y ∈ lv, okI m y)) _ ⟨([] : List BlkH), ([] : List (List VInT)), 0, [], none, 0, [], _, fR, kV, (OS.nil : OS F (.slice none 0 0) ([] : List BlkH) []), mz, (agC rfl (agC rfl (agC rfl (agC rfl (agC rfl (agC rfl agN)))))), rfl, (by rfl), (by simp), (by first | assumption | omega | (simp at *; omega)), (by simp)⟩ ?_
 rintro rr rU oi ⟨hv, lv, b, T, z, A, dn, k4, f2, b2, E, f5, mA, rfl, e1, e2, e3, J⟩ o2
 refine au _ mA (fun _ => ?_)
 clear mA
 replace hT := hT.mono f2
 replace hl := hl.mono f2
 have ph := FAM.len f5
 have hib := (hi b).1
 refine ah 2 rfl ?_
 refine wU 1 [(2, .o (.slice dv c.blocks.length d1))] 23 27 [] [(27, (.bool (decide ((b : Int) < (c.blocks.length : Int)))))] (ql 22 2 (HS.hc b2 (i := 0) rfl) rfl rfl) rfl fun _ => ?_
 refine am 4 5 (v := (decide ((b : Int) < (c.blocks.length : Int)))) rfl rfl rfl rfl (fun iv => ?_) (fun iv => ?_)
 ·
  have l6 := iv
  try simp only [BS] at l6
  refine aa ?_
  obtain ⟨cc, mN⟩ := Sv.view (SR.sv hl b2)
  obtain ⟨pT, pU, pV, pW, oh⟩ := BlkT.fx (mN b)
  let ow : Value := (.agg ⟨[(.slice (cA (cc b) 0) (c.blocks.getD b default).ins.length (cK (cc b) 0)), (iI (c.blocks.getD b default).fin), (iI (c.blocks.getD b default).reg), (iI (c.blocks.getD b default).tgt), (iI (c.blocks.getD b default).els)]⟩)
  refine wRo 5 0 [(1, .o (.slice dv c.blocks.length d1)), (4, .o ow)] 30 34 [] [(34, ow)] (vA (ql 22 2 (HS.hc b2 (i := 0) rfl) rfl rfl) (vA (Sv.ix (j := (b : Int)) (SR.sv hl b2) (by first | omega | (dsimp only; omega)) (by first | omega | (dsimp only; omega))) (vA (qn 48 0 5 (BlkT.vw (mN b) (by first | omega | (dsimp only; omega))) rfl rfl rfl rfl) trivial))) rfl fun _ => ?_
  refine aH (bp b2 rfl) rfl rfl ?_
  rintro _ rz _ ⟨k5, rfl, (oQ : HS _ _ _ [_, _, _, [(b9, .cells [(iI c.params), (iI c.regs), (.slice z hv.length A)] none false)], T, dn, [(k5, .cells [(.slice none 0 0), (iI 0), (iI 0), (iI 0), (iI 0)] none false)]] _), _⟩
  refine aL (aE (q := 6) oQ rfl rfl rfl rfl rfl rfl rfl rfl rfl) rfl ?_
  rintro _ rA _ ⟨(mJ : HS _ _ _ [_, _, _, _, _, _, [(k5, .cells [(.slice (cA (cc b) 0) (c.blocks.getD b default).ins.length (cK (cc b) 0)), (iI (c.blocks.getD b default).fin), (iI (c.blocks.getD b default).reg), (iI (c.blocks.getD b default).tgt), (iI (c.blocks.getD b default).els)] none false)]] _), _⟩
  refine ae 2 rfl ?_
  refine aa ?_
  refine wUo 2 0 [(1, .o (.slice (cA (cc b) 0) (c.blocks.getD b default).ins.length (cK (cc b) 0)))] 35 36 [] [(36, (.slice (cA (cc b) 0) (c.blocks.getD b default).ins.length (cK (cc b) 0)))] (ql 46 0 (HS.hc mJ (i := 6) rfl) rfl rfl) rfl fun _ => ?_
  have hW := HS.snoc mJ
  have hW : HS _ _ _ [_, _, _, _, _, _, _, []] _ := hW
  refine aH (bC (α := VInT) (q := 7) (OS.nil : OS k4 (.slice none 0 0) ([] : List VInT) []) hW rfl rfl rfl (SR.sv oh hW) rfl rfl rfl rfl rfl rfl rfl (by first | omega | (simp only [a06, a0a, a0g]; first | omega | (have hq := aQ (i := kk) (aG (i := ii) e2); omega)))) rfl rfl ?_
  rintro _ rB om ⟨c0, c3, rfl, kT, (oR : HS _ _ _ [_, _, _, _, _, _, _, om] _), _⟩
  have kT : OS k4 (.slice c0 (c.blocks.getD b default).ins.length c3) (c.blocks.getD b default).ins om := kT
  refine wTo 1 3 [] 38 38 [] [(38, (.pointer (some ⟨k5, 0, none⟩)))] rfl fun _ => ?_
  refine aL (aE (q := 6) oR rfl rfl rfl rfl rfl rfl rfl rfl rfl) rfl ?_
  rintro _ rD _ ⟨(kW : HS _ _ _ [_, _, _, _, _, _, [(k5, .cells [(.slice c0 (c.blocks.getD b default).ins.length c3), (iI (c.blocks.getD b default).fin), (iI (c.blocks.getD b default).reg), (iI (c.blocks.getD b default).tgt), (iI (c.blocks.getD b default).els)] none false)], _] _), _⟩
  refine ae 1 rfl ?_
  refine aa ?_
  let ne : Value := (.agg ⟨[(.slice c0 (c.blocks.getD b default).ins.length c3), (iI (c.blocks.getD b default).fin), (iI (c.blocks.getD b default).reg), (iI (c.blocks.getD b default).tgt), (iI (c.blocks.getD b default).els)]⟩)
  refine wRo 3 0 [(1, .o (.slice z hv.length A)), (2, .o ne)] 39 41 [] [(40, (.slice z hv.length A)), (41, ne)] (vA (ql 22 2 (HS.hc kW (i := 3) rfl) rfl rfl) (vA (qn 48 0 5 (HS.hc kW (i := 6) rfl) rfl rfl rfl rfl) trivial)) rfl fun _ => ?_
  refine aH (bu (α := BlkH) (ps := [(0, ne)]) (cells := [(.slice c0 (c.blocks.getD b default).ins.length c3), (iI (c.blocks.getD b default).fin), (iI (c.blocks.getD b default).reg), (iI (c.blocks.getD b default).tgt), (iI (c.blocks.getD b default).els)]) ([(⟨(⟨c0, (c.blocks.getD b default).ins.length, c3⟩ : Hd), (c.blocks.getD b default).fin, (c.blocks.getD b default).reg, (c.blocks.getD b default).tgt, (c.blocks.getD b default).els⟩ : BlkH)] : List BlkH) kW rfl rfl rfl (by kernel_rfl) ⟨[(.slice c0 (c.blocks.getD b default).ins.length c3), (iI (c.blocks.getD b default).fin), (iI (c.blocks.getD b default).reg), (iI (c.blocks.getD b default).tgt), (iI (c.blocks.getD b default).els)], [], rfl, ⟨rfl, by first | omega | (dsimp only; omega), by first | omega | (dsimp only; omega), by first | omega | (dsimp only; omega), by first | omega | (dsimp only; omega)⟩, rfl⟩ rfl) rfl rfl ?_
  rintro _ rE pI ⟨rS, rY, rfl, oM, (mK : HS _ _ _ [_, _, _, _, _, _, _, _, pI] _), _⟩
  refine aH (bC (α := BlkH) (q := 4) E mK rfl rfl rfl (OS.sv oM mK (i := 8) rfl) rfl rfl rfl rfl rfl rfl rfl (by first | omega | (simp only [a06, a0a, a0g]; first | omega | (have hq := aQ (i := kk) (aG (i := ii) e2); omega)))) rfl rfl ?_
  rintro _ rF oo ⟨oj, ol, rfl, oN, (oT : HS _ _ _ [_, _, _, _, oo, _, _, _, _] _), _⟩
  obtain ⟨kS, kX, hn⟩ := SF.add (⟨(⟨c0, (c.blocks.getD b default).ins.length, c3⟩ : Hd), (c.blocks.getD b default).fin, (c.blocks.getD b default).reg, (c.blocks.getD b default).tgt, (c.blocks.getD b default).els⟩ : BlkH) f5 oT (q := 5) (m := 7) (by decide) rfl rfl kT
  have kX : HS _ _ _ [_, _, _, _, _, kS, _, [], _] _ := kX
  have hn : SF k4 (hv ++ ([(⟨(⟨c0, (c.blocks.getD b default).ins.length, c3⟩ : Hd), (c.blocks.getD b default).fin, (c.blocks.getD b default).reg, (c.blocks.getD b default).tgt, (c.blocks.getD b default).els⟩ : BlkH)] : List BlkH)) (lv ++ [(c.blocks.getD b default).ins]) kS := hn
  have q7 := FAM.len hn
  refine wTo 1 5 [] 44 44 [] [(44, (.pointer (some ⟨b9, 2, none⟩)))] rfl fun _ => ?_
  refine aL (aE (q := 3) kX rfl rfl rfl rfl rfl rfl rfl rfl rfl) rfl ?_
  rintro _ rG _ ⟨(oU : HS _ _ _ [_, _, _, [(b9, .cells [(iI c.params), (iI c.regs), (.slice oj (hv ++ ([(⟨(⟨c0, (c.blocks.getD b default).ins.length, c3⟩ : Hd), (c.blocks.getD b default).fin, (c.blocks.getD b default).reg, (c.blocks.getD b default).tgt, (c.blocks.getD b default).els⟩ : BlkH)] : List BlkH)).length ol)] none false)], _, _, _, _, _] _), _⟩
  refine ae 2 rfl ?_
  refine wU 1 [] 28 29 [9] [(9, (iI ((b : Int) + 1)))] (vi (n := (b : Int) + 1) (by first | omega | (dsimp only; omega))) rfl fun _ => ?_
  refine o2 _ _ _ ?_ ⟨hv ++ ([(⟨(⟨c0, (c.blocks.getD b default).ins.length, c3⟩ : Hd), (c.blocks.getD b default).fin, (c.blocks.getD b default).reg, (c.blocks.getD b default).tgt, (c.blocks.getD b default).els⟩ : BlkH)] : List BlkH), lv ++ [(c.blocks.getD b default).ins], b + 1, oo, oj, ol, kS, _, (f2), (HS.sub oU (a05 _ _)), oN, hn, (agC rfl (agC rfl (agC rfl (agC rfl (agC rfl (agC rfl agN)))))), rfl, (by simp; omega), (by exact ok_snoc e2 (hi b)), (by first | assumption | omega | (simp at *; omega)), (by exact fun m hm => ok_snoc (J m hm) (hm b))⟩
  omega
 have l6 := iv
 try simp only [BS] at l6
 have q9 := eZ at_ (hv.length : Int)
 refine wRD 2 [(1, .o (.slice z hv.length A)), (4, .o (.slice z hv.length A)), (6, .o (iI (bJ at_ (hv.length : Int))))] 45 52 [11] [(11, (.pointer (some ⟨sB (.slice z hv.length A), sO (.slice z hv.length A) + (bJ at_ (hv.length : Int)).toNat * Rp.sz BlkH, none⟩)))] (vA (ql 22 2 (hc0 (HS.hc b2 (i := 3) rfl)) rfl rfl) (vA (ql 22 2 (hc0 (HS.hc b2 (i := 3) rfl)) rfl rfl) (vA (m1.fM ex at_ (hv.length : Int) { oi with log := [] } (by first | omega | (dsimp only; omega))) (vA (Sv.ix (j := bJ at_ (hv.length : Int)) (OS.sv E b2 (i := 4) rfl) (by first | omega | (dsimp only; omega)) (by first | omega | (dsimp only; omega))) trivial)))) rfl rfl fun _ => ?_
 have hii : (bJ at_ (hv.length : Int)).toNat < hv.length := by first | omega | (dsimp only; omega)
 generalize (bJ at_ (hv.length : Int)).toNat = ii at hii ⊢
 refine wT 3 [] 1 0 [12] [(12, (.pointer none))] rfl fun _ => ?_
 obtain ⟨q3, mO⟩ := Sv.view (OS.sv E b2 (i := 4) rfl)
 obtain ⟨pX, pY, pZ, p0⟩ := BlkH.fx (mO ii)
 obtain ⟨mx, kz, c9, b0, my⟩ := SF.open f5 b2 (q := 5) (i := ii) rfl (by first | omega | (dsimp only; omega))
 let ox : Fp := [(b9, .cells [(iI c.params), (iI c.regs), (.slice z hv.length A)] none false)]
 have c9 : HS _ _ _ [h3, h4, [(b6, .cells [(iI how)] none false)], ox, T, mx, kz] _ := c9
 have b0 : OS k4 (.slice (hv.getD ii default).h.a (hv.getD ii default).h.n (hv.getD ii default).h.k) (lv.getD ii default) kz := b0
 have rn := OS.nlen b0
 refine wU 1 [(3, .o (.slice (hv.getD ii default).h.a (hv.getD ii default).h.n (hv.getD ii default).h.k))] 53 58 [] [(58, (.bool (decide ((0 : Int) < ((hv.getD ii default).h.n : Int)))))] (ql 46 0 (BlkH.vw (mO ii) (by first | omega | (dsimp only; omega))) rfl rfl) rfl fun _ => ?_
 refine am 0 0 (v := (decide ((0 : Int) < ((hv.getD ii default).h.n : Int)))) rfl rfl rfl rfl (fun kg => ?_) (fun kg => ?_)
 ·
  have l7 := kg
  try simp only [BS] at l7
  have hle := (aG (i := ii) e2).1
  obtain ⟨q4, k0⟩ := Sv.view (OS.sv E c9 (i := 4) rfl)
  obtain ⟨p1, p2, p3, p4⟩ := BlkH.fx (k0 ii)
  have rt : in64 at_ → in64 (Int.tdiv at_ 7) := fun h => vq h (by decide)
  have rc := eZ (Int.tdiv at_ 7) ((hv.getD ii default).h.n : Int)
  refine wRD 2 [(3, .o (.slice (hv.getD ii default).h.a (hv.getD ii default).h.n (hv.getD ii default).h.k)), (9, .o (.slice (hv.getD ii default).h.a (hv.getD ii default).h.n (hv.getD ii default).h.k)), (11, .o (iI (bJ (Int.tdiv at_ 7) ((hv.getD ii default).h.n : Int))))] 59 71 [12] [(12, (.pointer (some ⟨sB (.slice (hv.getD ii default).h.a (hv.getD ii default).h.n (hv.getD ii default).h.k), sO (.slice (hv.getD ii default).h.a (hv.getD ii default).h.n (hv.getD ii default).h.k) + (bJ (Int.tdiv at_ 7) ((hv.getD ii default).h.n : Int)).toNat * Rp.sz VInT, none⟩)))] (vA (ql 46 0 (hc0 (BlkH.vw (k0 ii) (by first | omega | (dsimp only; omega)))) rfl rfl) (vA (vA (show (7 : Int) ≠ 0 from by decide) (vq (a := at_) (b := 7) (by first | omega | (dsimp only; omega)) (by decide))) (vA (ql 46 0 (hc0 (BlkH.vw (k0 ii) (by first | omega | (dsimp only; omega)))) rfl rfl) (vA (m1.fM ex (Int.tdiv at_ 7) ((hv.getD ii default).h.n : Int) { oi with log := [] } (by first | omega | (dsimp only; omega))) (vA (Sv.ix (j := bJ (Int.tdiv at_ 7) ((hv.getD ii default).h.n : Int)) (OS.sv b0 c9 (i := 6) rfl) (by first | omega | (dsimp only; omega)) (by first | omega | (dsimp only; omega))) trivial))))) rfl rfl fun _ => ?_
  have hkk : (bJ (Int.tdiv at_ 7) ((hv.getD ii default).h.n : Int)).toNat < (lv.getD ii default).length := by first | omega | (dsimp only; omega)
  generalize (bJ (Int.tdiv at_ 7) ((hv.getD ii default).h.n : Int)).toNat = kk at hkk ⊢
  refine aa ?_
  refine wm (.pointer (some ⟨b6, 0, none⟩)) rfl rfl rfl ?_
  refine az (ap rfl rfl rfl) rfl rfl (m4.cv ex (⟨how⟩ : DigT) (40) (HS.callOwn c9 (i := 2) rfl) (by first | omega | (dsimp only; omega)) (by first | omega | (dsimp only; omega)) hT (by first | omega | (dsimp only; omega))) ?_
  rintro _ rH ⟨U, ms, ru, f3, hY, rfl, pu, rW⟩
  replace hY : HS _ _ _ [h3, h4, [(b6, .cells [(iI ms.n)] none false)], ox, T, mx, kz] _ := HS.backOwn c9 (i := 2) rfl rfl (fun _ hb => hb) hY
  replace hT := hT.mono f3
  refine wUo 2 2 [] 76 76 [13] [(13, (iI (U - 2)))] (vi (n := U - 2) (by first | omega | (dsimp only; omega))) rfl fun _ => ?_
  refine ae 3 rfl ?_
  refine aa ?_
  refine wm (.pointer (some ⟨b6, 0, none⟩)) rfl rfl rfl ?_
  refine az (ap rfl rfl rfl) rfl rfl (m4.cv ex (⟨ms.n⟩ : DigT) (14) (HS.callOwn hY (i := 2) rfl) (by first | omega | (dsimp only; omega)) (by first | omega | (dsimp only; omega)) hT (by first | omega | (dsimp only; omega))) ?_
  rintro _ rI ⟨ad, mu, dd, f4, kY, rfl, pw, rX⟩
  replace kY : HS _ _ _ [_, _, [(b6, .cells [(iI mu.n)] none false)], _, _, _, _] _ := HS.backOwn hY (i := 2) rfl rfl (fun _ hb => hb) kY
  replace hT := hT.mono f4
  replace b0 := (b0.mono f3).mono f4
  replace E := (E.mono f3).mono f4
  refine wa (iI ad) rfl rfl rfl ?_
  refine ae 3 rfl ?_
  refine wT 1 [] 79 81 [] [(79, (.bool (ad == 0)))] rfl fun _ => ?_
  obtain ⟨ch, ag, a7⟩ := SF.shut0 my (fT (f3) f4) kY (q := 5) (m := 6) (by decide) rfl rfl b0
  have ag : HS _ _ _ [_, _, _, _, _, ch, []] _ := ag
  have q8 := FAM.len a7
  refine bN (fun f H' => ∃ (a6 : List BlkH) (dt : List (List VInT)) (pq : Int) (rq : Int) (bz : Fp) (a4 : Option Addr) (a5 : Nat) (ds : Fp) (F' : Fz), Fz.le dd F' ∧ HS (Base.of H []) F' H' [h3, h4, [(b6, .cells [(iI mu.n)] none false)], [(b9, .cells [(iI pq), (iI rq), (.slice a4 a6.length a5)] none false)], bz, ds, []] R ∧ OS F' (.slice a4 a6.length a5) a6 bz ∧ SF F' a6 dt ds ∧ aD f [(6, (.pointer (some ⟨b3, 0, none⟩))), (8, (.pointer (some ⟨b9, 0, none⟩)))] ∧ (in64 pq ∧ in64 rq) ∧ (a6.length ≤ 1000) ∧ (∀ m, (∀ j, okI m (c.blocks.getD j default).ins) → ∀ y ∈ dt, okI (m + 1) y)) (fun a8 => ?_) ?_
  ·
   refine am 0 1 (v := (ad == 0)) rfl rfl rfl rfl (fun ki => ?_) (fun ki => ?_)
   ·
    have l8 := ki
    try simp only [BS] at l8
    refine aa ?_
    refine wTo 2 0 [] 82 83 [] [(82, (iI (U - 2))), (83, (.pointer (some ⟨b9, 0, none⟩)))] rfl fun _ => ?_
    refine aL (aE (q := 3) ag rfl rfl rfl rfl rfl rfl rfl rfl rfl) rfl ?_
    rintro _ rK _ ⟨(oV : HS _ _ _ [_, _, _, [(b9, .cells [(iI (U - 2)), (iI c.regs), (.slice z hv.length A)] none false)], _, _, _] _), _⟩
    refine ae 0 rfl ?_
    exact a8 _ _ ⟨hv, lv, U - 2, c.regs, T, z, A, ch, _, fR, oV, E, a7, (agC rfl (agC rfl agN)), (by first | omega | exact ⟨by omega, by omega⟩), (by first | omega | (simp; omega)), (by exact fun m hm => by first | exact da (J m hm) | exact da (fun y hy => J m hm y (a0d hy)) | exact aS (J m hm) (a0l (aQ (aG (J m hm)))) | exact aS (J m hm) (bm (aQ (aG (J m hm)))))⟩
   have l8 := ki
   try simp only [BS] at l8
   refine wT 1 [] 84 86 [] [(84, (.bool (ad == 1)))] rfl fun _ => ?_
   refine am 0 1 (v := (ad == 1)) rfl rfl rfl rfl (fun kl => ?_) (fun kl => ?_)
   ·
    have l9 := kl
    try simp only [BS] at l9
    refine aa ?_
    refine wTo 2 0 [] 87 88 [] [(87, (iI (U - 2))), (88, (.pointer (some ⟨b9, 1, none⟩)))] rfl fun _ => ?_
    refine aL (aE (q := 3) ag rfl rfl rfl rfl rfl rfl rfl rfl rfl) rfl ?_
    rintro _ rL _ ⟨(oW : HS _ _ _ [_, _, _, [(b9, .cells [(iI c.params), (iI (U - 2)), (.slice z hv.length A)] none false)], _, _, _] _), _⟩
    refine ae 0 rfl ?_
    exact a8 _ _ ⟨hv, lv, c.params, U - 2, T, z, A, ch, _, fR, oW, E, a7, (agC rfl (agC rfl agN)), (by first | omega | exact ⟨by omega, by omega⟩), (by first | omega | (simp; omega)), (by exact fun m hm => by first | exact da (J m hm) | exact da (fun y hy => J m hm y (a0d hy)) | exact aS (J m hm) (a0l (aQ (aG (J m hm)))) | exact aS (J m hm) (bm (aQ (aG (J m hm)))))⟩
   have l9 := kl
   try simp only [BS] at l9
   refine wT 1 [] 89 91 [] [(89, (.bool (ad == 2)))] rfl fun _ => ?_
   refine am 0 1 (v := (ad == 2)) rfl rfl rfl rfl (fun kn => ?_) (fun kn => ?_)
   ·
    have mk := kn
    try simp only [BS] at mk
    refine aa ?_
    refine wTo 4 0 [] 92 95 [] [(93, (iI (U - 2))), (95, (.pointer (some ⟨sB (.slice z hv.length A), sO (.slice z hv.length A) + ii * Rp.sz BlkH + 1, none⟩)))] rfl fun _ => ?_
    have oI := SF.put (⟨(hv.getD ii default).h, U - 2, (hv.getD ii default).reg, (hv.getD ii default).tgt, (hv.getD ii default).els⟩ : BlkH) a7 (i := ii) rfl
    refine aL (bY (α := BlkH) (j := ii) (off := 1) (q := 4) (⟨(hv.getD ii default).h, U - 2, (hv.getD ii default).reg, (hv.getD ii default).tgt, (hv.getD ii default).els⟩ : BlkH) E ag rfl rfl rfl rfl rfl rfl rfl rfl (aK (x := default) (by first | omega | (dsimp only; omega))) rfl (by rintro cs ⟨rfl, ay, a0, a1, a2⟩; exact ⟨a04 rfl, ⟨rfl, by first | omega | (dsimp only; omega), a0, a1, a2⟩⟩)) rfl ?_
    rintro _ rM oq ⟨mC, (oX : HS _ _ _ [_, _, _, _, oq, _, _] _), _⟩
    have p5 := OS.len' mC
    refine ae 0 rfl ?_
    exact a8 _ _ ⟨hv.set ii (⟨(hv.getD ii default).h, U - 2, (hv.getD ii default).reg, (hv.getD ii default).tgt, (hv.getD ii default).els⟩ : BlkH), lv, c.params, c.regs, oq, z, A, ch, _, fR, (by simpa only [a0i] using oX), (OS.norm mC), oI, (agC rfl (agC rfl agN)), (by first | omega | exact ⟨by omega, by omega⟩), (by first | omega | (simp; omega)), (by exact fun m hm => by first | exact da (J m hm) | exact da (fun y hy => J m hm y (a0d hy)) | exact aS (J m hm) (a0l (aQ (aG (J m hm)))) | exact aS (J m hm) (bm (aQ (aG (J m hm)))))⟩
   have mk := kn
   try simp only [BS] at mk
   refine wT 1 [] 96 98 [] [(96, (.bool (ad == 3)))] rfl fun _ => ?_
   refine am 0 1 (v := (ad == 3)) rfl rfl rfl rfl (fun ko => ?_) (fun ko => ?_)
   ·
    have mn := ko
    try simp only [BS] at mn
    refine aa ?_
    refine wTo 4 0 [] 99 102 [] [(100, (iI (U - 2))), (102, (.pointer (some ⟨sB (.slice z hv.length A), sO (.slice z hv.length A) + ii * Rp.sz BlkH + 2, none⟩)))] rfl fun _ => ?_
    have oJ := SF.put (⟨(hv.getD ii default).h, (hv.getD ii default).fin, U - 2, (hv.getD ii default).tgt, (hv.getD ii default).els⟩ : BlkH) a7 (i := ii) rfl
    refine aL (bY (α := BlkH) (j := ii) (off := 2) (q := 4) (⟨(hv.getD ii default).h, (hv.getD ii default).fin, U - 2, (hv.getD ii default).tgt, (hv.getD ii default).els⟩ : BlkH) E ag rfl rfl rfl rfl rfl rfl rfl rfl (aK (x := default) (by first | omega | (dsimp only; omega))) rfl (by rintro cs ⟨rfl, ay, a0, a1, a2⟩; exact ⟨a04 rfl, ⟨rfl, ay, by first | omega | (dsimp only; omega), a1, a2⟩⟩)) rfl ?_
    rintro _ rO ot ⟨mD, (oY : HS _ _ _ [_, _, _, _, ot, _, _] _), _⟩
    have p6 := OS.len' mD
    refine ae 0 rfl ?_
    exact a8 _ _ ⟨hv.set ii (⟨(hv.getD ii default).h, (hv.getD ii default).fin, U - 2, (hv.getD ii default).tgt, (hv.getD ii default).els⟩ : BlkH), lv, c.params, c.regs, ot, z, A, ch, _, fR, (by simpa only [a0i] using oY), (OS.norm mD), oJ, (agC rfl (agC rfl agN)), (by first | omega | exact ⟨by omega, by omega⟩), (by first | omega | (simp; omega)), (by exact fun m hm => by first | exact da (J m hm) | exact da (fun y hy => J m hm y (a0d hy)) | exact aS (J m hm) (a0l (aQ (aG (J m hm)))) | exact aS (J m hm) (bm (aQ (aG (J m hm)))))⟩
   have mn := ko
   try simp only [BS] at mn
   refine wT 1 [] 103 105 [] [(103, (.bool (ad == 4)))] rfl fun _ => ?_
   refine am 0 1 (v := (ad == 4)) rfl rfl rfl rfl (fun kr => ?_) (fun kr => ?_)
   ·
    have mp := kr
    try simp only [BS] at mp
    refine aa ?_
    refine wTo 4 0 [] 106 109 [] [(107, (iI (U - 2))), (109, (.pointer (some ⟨sB (.slice z hv.length A), sO (.slice z hv.length A) + ii * Rp.sz BlkH + 3, none⟩)))] rfl fun _ => ?_
    have oK := SF.put (⟨(hv.getD ii default).h, (hv.getD ii default).fin, (hv.getD ii default).reg, U - 2, (hv.getD ii default).els⟩ : BlkH) a7 (i := ii) rfl
    refine aL (bY (α := BlkH) (j := ii) (off := 3) (q := 4) (⟨(hv.getD ii default).h, (hv.getD ii default).fin, (hv.getD ii default).reg, U - 2, (hv.getD ii default).els⟩ : BlkH) E ag rfl rfl rfl rfl rfl rfl rfl rfl (aK (x := default) (by first | omega | (dsimp only; omega))) rfl (by rintro cs ⟨rfl, ay, a0, a1, a2⟩; exact ⟨a04 rfl, ⟨rfl, ay, a0, by first | omega | (dsimp only; omega), a2⟩⟩)) rfl ?_
    rintro _ rP ou ⟨mE, (oZ : HS _ _ _ [_, _, _, _, ou, _, _] _), _⟩
    have p7 := OS.len' mE
    refine ae 0 rfl ?_
    exact a8 _ _ ⟨hv.set ii (⟨(hv.getD ii default).h, (hv.getD ii default).fin, (hv.getD ii default).reg, U - 2, (hv.getD ii default).els⟩ : BlkH), lv, c.params, c.regs, ou, z, A, ch, _, fR, (by simpa only [a0i] using oZ), (OS.norm mE), oK, (agC rfl (agC rfl agN)), (by first | omega | exact ⟨by omega, by omega⟩), (by first | omega | (simp; omega)), (by exact fun m hm => by first | exact da (J m hm) | exact da (fun y hy => J m hm y (a0d hy)) | exact aS (J m hm) (a0l (aQ (aG (J m hm)))) | exact aS (J m hm) (bm (aQ (aG (J m hm)))))⟩
   have mp := kr
   try simp only [BS] at mp
   refine wT 1 [] 110 112 [] [(110, (.bool (ad == 5)))] rfl fun _ => ?_
   refine am 0 1 (v := (ad == 5)) rfl rfl rfl rfl (fun kx => ?_) (fun kx => ?_)
   ·
    have mq := kx
    try simp only [BS] at mq
    refine aa ?_
    refine wTo 4 0 [] 113 116 [] [(114, (iI (U - 2))), (116, (.pointer (some ⟨sB (.slice z hv.length A), sO (.slice z hv.length A) + ii * Rp.sz BlkH + 4, none⟩)))] rfl fun _ => ?_
    have oL := SF.put (⟨(hv.getD ii default).h, (hv.getD ii default).fin, (hv.getD ii default).reg, (hv.getD ii default).tgt, U - 2⟩ : BlkH) a7 (i := ii) rfl
    refine aL (bY (α := BlkH) (j := ii) (off := 4) (q := 4) (⟨(hv.getD ii default).h, (hv.getD ii default).fin, (hv.getD ii default).reg, (hv.getD ii default).tgt, U - 2⟩ : BlkH) E ag rfl rfl rfl rfl rfl rfl rfl rfl (aK (x := default) (by first | omega | (dsimp only; omega))) rfl (by rintro cs ⟨rfl, ay, a0, a1, a2⟩; exact ⟨a04 rfl, ⟨rfl, ay, a0, a1, by first | omega | (dsimp only; omega)⟩⟩)) rfl ?_
    rintro _ rQ ov ⟨mF, (o0 : HS _ _ _ [_, _, _, _, ov, _, _] _), _⟩
    have p8 := OS.len' mF
    refine ae 0 rfl ?_
    exact a8 _ _ ⟨hv.set ii (⟨(hv.getD ii default).h, (hv.getD ii default).fin, (hv.getD ii default).reg, (hv.getD ii default).tgt, U - 2⟩ : BlkH), lv, c.params, c.regs, ov, z, A, ch, _, fR, (by simpa only [a0i] using o0), (OS.norm mF), oL, (agC rfl (agC rfl agN)), (by first | omega | exact ⟨by omega, by omega⟩), (by first | omega | (simp; omega)), (by exact fun m hm => by first | exact da (J m hm) | exact da (fun y hy => J m hm y (a0d hy)) | exact aS (J m hm) (a0l (aQ (aG (J m hm)))) | exact aS (J m hm) (bm (aQ (aG (J m hm)))))⟩
   have mq := kx
   try simp only [BS] at mq
   refine wT 1 [] 117 119 [] [(117, (.bool (ad == 6)))] rfl fun _ => ?_
   refine am 0 1 (v := (ad == 6)) rfl rfl rfl rfl (fun ky => ?_) (fun ky => ?_)
   ·
    have mr := ky
    try simp only [BS] at mr
    obtain ⟨oF, mw, kZ, hu, oG⟩ := SF.open a7 ag (q := 5) (i := ii) rfl (by first | omega | (dsimp only; omega))
    have kZ : HS _ _ _ [_, _, _, _, _, oF, _, mw] _ := kZ
    have hu : OS dd (.slice (hv.getD ii default).h.a (hv.getD ii default).h.n (hv.getD ii default).h.k) (lv.getD ii default) mw := hu
    have rp := OS.nlen hu
    refine aa ?_
    refine wTo 5 0 [] 120 124 [] [(121, (iI (U - 2))), (124, (.pointer (some ⟨sB (.slice (hv.getD ii default).h.a (hv.getD ii default).h.n (hv.getD ii default).h.k), sO (.slice (hv.getD ii default).h.a (hv.getD ii default).h.n (hv.getD ii default).h.k) + kk * Rp.sz VInT, none⟩)))] rfl fun _ => ?_
    refine aL (bY (α := VInT) (j := kk) (off := 0) (q := 7) (⟨(⟨U - 2, ((lv.getD ii default).getD kk default).i.a, ((lv.getD ii default).getD kk default).i.b, ((lv.getD ii default).getD kk default).i.c, ((lv.getD ii default).getD kk default).i.n⟩ : InsT), ((lv.getD ii default).getD kk default).args⟩ : VInT) hu kZ rfl rfl rfl rfl rfl rfl rfl rfl (aK (x := default) (by first | omega | (dsimp only; omega))) rfl (by rintro cs ⟨c4, c7, rfl, c5, ay, a0, a1, a2, c6⟩; exact ⟨a04 rfl, ⟨c4, c7, rfl, by first | omega | (dsimp only; omega), ay, a0, a1, a2, c6⟩⟩)) rfl ?_
    rintro _ rR pJ ⟨mG, (o1 : HS _ _ _ [_, _, _, _, _, _, _, pJ] _), _⟩
    have p9 := OS.len' mG
    refine ae 0 rfl ?_
    obtain ⟨ld, hw, lz⟩ := SF.shut oG fR o1 (q := 5) (m := 7) (by decide) rfl rfl mG
    have hw : HS _ _ _ [_, _, _, _, _, ld, _, []] _ := hw
    have pK := FAM.len lz
    exact a8 _ _ ⟨hv, lv.set ii ((lv.getD ii default).set kk (⟨(⟨U - 2, ((lv.getD ii default).getD kk default).i.a, ((lv.getD ii default).getD kk default).i.b, ((lv.getD ii default).getD kk default).i.c, ((lv.getD ii default).getD kk default).i.n⟩ : InsT), ((lv.getD ii default).getD kk default).args⟩ : VInT)), c.params, c.regs, T, z, A, ld, _, fR, (HS.sub hw (a05 _ _)), E, lz, (agC rfl (agC rfl agN)), (by first | omega | exact ⟨by omega, by omega⟩), (by first | omega | (simp; omega)), (by exact fun m hm => by first | exact da (J m hm) | exact da (fun y hy => J m hm y (a0d hy)) | exact aS (J m hm) (a0l (aQ (aG (J m hm)))) | exact aS (J m hm) (bm (aQ (aG (J m hm)))))⟩
   have mr := ky
   try simp only [BS] at mr
   refine wT 1 [] 125 127 [] [(125, (.bool (ad == 7)))] rfl fun _ => ?_
   refine am 0 1 (v := (ad == 7)) rfl rfl rfl rfl (fun f7 => ?_) (fun f7 => ?_)
   ·
    have h7 := f7
    try simp only [BS] at h7
    obtain ⟨nj, k8, hz, es, ns⟩ := SF.open a7 ag (q := 5) (i := ii) rfl (by first | omega | (dsimp only; omega))
    have hz : HS _ _ _ [_, _, _, _, _, nj, _, k8] _ := hz
    have es : OS dd (.slice (hv.getD ii default).h.a (hv.getD ii default).h.n (hv.getD ii default).h.k) (lv.getD ii default) k8 := es
    have qe := OS.nlen es
    refine aa ?_
    refine wTo 5 0 [] 128 132 [] [(129, (iI (U - 2))), (132, (.pointer (some ⟨sB (.slice (hv.getD ii default).h.a (hv.getD ii default).h.n (hv.getD ii default).h.k), sO (.slice (hv.getD ii default).h.a (hv.getD ii default).h.n (hv.getD ii default).h.k) + kk * Rp.sz VInT + 1, none⟩)))] rfl fun _ => ?_
    refine aL (bY (α := VInT) (j := kk) (off := 1) (q := 7) (⟨(⟨((lv.getD ii default).getD kk default).i.op, U - 2, ((lv.getD ii default).getD kk default).i.b, ((lv.getD ii default).getD kk default).i.c, ((lv.getD ii default).getD kk default).i.n⟩ : InsT), ((lv.getD ii default).getD kk default).args⟩ : VInT) es hz rfl rfl rfl rfl rfl rfl rfl rfl (aK (x := default) (by first | omega | (dsimp only; omega))) rfl (by rintro cs ⟨c4, c7, rfl, c5, ay, a0, a1, a2, c6⟩; exact ⟨a04 rfl, ⟨c4, c7, rfl, c5, by first | omega | (dsimp only; omega), a0, a1, a2, c6⟩⟩)) rfl ?_
    rintro _ qu o8 ⟨lI, (nN : HS _ _ _ [_, _, _, _, _, _, _, o8] _), _⟩
    have px := OS.len' lI
    refine ae 0 rfl ?_
    obtain ⟨lf, hA, lA⟩ := SF.shut ns fR nN (q := 5) (m := 7) (by decide) rfl rfl lI
    have hA : HS _ _ _ [_, _, _, _, _, lf, _, []] _ := hA
    have pL := FAM.len lA
    exact a8 _ _ ⟨hv, lv.set ii ((lv.getD ii default).set kk (⟨(⟨((lv.getD ii default).getD kk default).i.op, U - 2, ((lv.getD ii default).getD kk default).i.b, ((lv.getD ii default).getD kk default).i.c, ((lv.getD ii default).getD kk default).i.n⟩ : InsT), ((lv.getD ii default).getD kk default).args⟩ : VInT)), c.params, c.regs, T, z, A, lf, _, fR, (HS.sub hA (a05 _ _)), E, lA, (agC rfl (agC rfl agN)), (by first | omega | exact ⟨by omega, by omega⟩), (by first | omega | (simp; omega)), (by exact fun m hm => by first | exact da (J m hm) | exact da (fun y hy => J m hm y (a0d hy)) | exact aS (J m hm) (a0l (aQ (aG (J m hm)))) | exact aS (J m hm) (bm (aQ (aG (J m hm)))))⟩
   have h7 := f7
   try simp only [BS] at h7
   refine wT 1 [] 133 135 [] [(133, (.bool (ad == 8)))] rfl fun _ => ?_
   refine am 0 1 (v := (ad == 8)) rfl rfl rfl rfl (fun f8 => ?_) (fun f8 => ?_)
   ·
    have h8 := f8
    try simp only [BS] at h8
    obtain ⟨nk, k9, hB, et, nt⟩ := SF.open a7 ag (q := 5) (i := ii) rfl (by first | omega | (dsimp only; omega))
    have hB : HS _ _ _ [_, _, _, _, _, nk, _, k9] _ := hB
    have et : OS dd (.slice (hv.getD ii default).h.a (hv.getD ii default).h.n (hv.getD ii default).h.k) (lv.getD ii default) k9 := et
    have qf := OS.nlen et
    refine aa ?_
    refine wTo 5 0 [] 136 140 [] [(137, (iI (U - 2))), (140, (.pointer (some ⟨sB (.slice (hv.getD ii default).h.a (hv.getD ii default).h.n (hv.getD ii default).h.k), sO (.slice (hv.getD ii default).h.a (hv.getD ii default).h.n (hv.getD ii default).h.k) + kk * Rp.sz VInT + 2, none⟩)))] rfl fun _ => ?_
    refine aL (bY (α := VInT) (j := kk) (off := 2) (q := 7) (⟨(⟨((lv.getD ii default).getD kk default).i.op, ((lv.getD ii default).getD kk default).i.a, U - 2, ((lv.getD ii default).getD kk default).i.c, ((lv.getD ii default).getD kk default).i.n⟩ : InsT), ((lv.getD ii default).getD kk default).args⟩ : VInT) et hB rfl rfl rfl rfl rfl rfl rfl rfl (aK (x := default) (by first | omega | (dsimp only; omega))) rfl (by rintro cs ⟨c4, c7, rfl, c5, ay, a0, a1, a2, c6⟩; exact ⟨a04 rfl, ⟨c4, c7, rfl, c5, ay, by first | omega | (dsimp only; omega), a1, a2, c6⟩⟩)) rfl ?_
    rintro _ qv o9 ⟨lJ, (nO : HS _ _ _ [_, _, _, _, _, _, _, o9] _), _⟩
    have py := OS.len' lJ
    refine ae 0 rfl ?_
    obtain ⟨lh, hC, lB⟩ := SF.shut nt fR nO (q := 5) (m := 7) (by decide) rfl rfl lJ
    have hC : HS _ _ _ [_, _, _, _, _, lh, _, []] _ := hC
    have pM := FAM.len lB
    exact a8 _ _ ⟨hv, lv.set ii ((lv.getD ii default).set kk (⟨(⟨((lv.getD ii default).getD kk default).i.op, ((lv.getD ii default).getD kk default).i.a, U - 2, ((lv.getD ii default).getD kk default).i.c, ((lv.getD ii default).getD kk default).i.n⟩ : InsT), ((lv.getD ii default).getD kk default).args⟩ : VInT)), c.params, c.regs, T, z, A, lh, _, fR, (HS.sub hC (a05 _ _)), E, lB, (agC rfl (agC rfl agN)), (by first | omega | exact ⟨by omega, by omega⟩), (by first | omega | (simp; omega)), (by exact fun m hm => by first | exact da (J m hm) | exact da (fun y hy => J m hm y (a0d hy)) | exact aS (J m hm) (a0l (aQ (aG (J m hm)))) | exact aS (J m hm) (bm (aQ (aG (J m hm)))))⟩
   have h8 := f8
   try simp only [BS] at h8
   refine wT 1 [] 141 143 [] [(141, (.bool (ad == 9)))] rfl fun _ => ?_
   refine am 0 1 (v := (ad == 9)) rfl rfl rfl rfl (fun f9 => ?_) (fun f9 => ?_)
   ·
    have h9 := f9
    try simp only [BS] at h9
    obtain ⟨nl, la, hD, ez, nu⟩ := SF.open a7 ag (q := 5) (i := ii) rfl (by first | omega | (dsimp only; omega))
    have hD : HS _ _ _ [_, _, _, _, _, nl, _, la] _ := hD
    have ez : OS dd (.slice (hv.getD ii default).h.a (hv.getD ii default).h.n (hv.getD ii default).h.k) (lv.getD ii default) la := ez
    have qg := OS.nlen ez
    refine aa ?_
    refine wTo 5 0 [] 144 148 [] [(145, (iI (U - 2))), (148, (.pointer (some ⟨sB (.slice (hv.getD ii default).h.a (hv.getD ii default).h.n (hv.getD ii default).h.k), sO (.slice (hv.getD ii default).h.a (hv.getD ii default).h.n (hv.getD ii default).h.k) + kk * Rp.sz VInT + 3, none⟩)))] rfl fun _ => ?_
    refine aL (bY (α := VInT) (j := kk) (off := 3) (q := 7) (⟨(⟨((lv.getD ii default).getD kk default).i.op, ((lv.getD ii default).getD kk default).i.a, ((lv.getD ii default).getD kk default).i.b, U - 2, ((lv.getD ii default).getD kk default).i.n⟩ : InsT), ((lv.getD ii default).getD kk default).args⟩ : VInT) ez hD rfl rfl rfl rfl rfl rfl rfl rfl (aK (x := default) (by first | omega | (dsimp only; omega))) rfl (by rintro cs ⟨c4, c7, rfl, c5, ay, a0, a1, a2, c6⟩; exact ⟨a04 rfl, ⟨c4, c7, rfl, c5, ay, a0, by first | omega | (dsimp only; omega), a2, c6⟩⟩)) rfl ?_
    rintro _ qw pb ⟨lK, (nP : HS _ _ _ [_, _, _, _, _, _, _, pb] _), _⟩
    have pz := OS.len' lK
    refine ae 0 rfl ?_
    obtain ⟨lj, hE, lC⟩ := SF.shut nu fR nP (q := 5) (m := 7) (by decide) rfl rfl lK
    have hE : HS _ _ _ [_, _, _, _, _, lj, _, []] _ := hE
    have pN := FAM.len lC
    exact a8 _ _ ⟨hv, lv.set ii ((lv.getD ii default).set kk (⟨(⟨((lv.getD ii default).getD kk default).i.op, ((lv.getD ii default).getD kk default).i.a, ((lv.getD ii default).getD kk default).i.b, U - 2, ((lv.getD ii default).getD kk default).i.n⟩ : InsT), ((lv.getD ii default).getD kk default).args⟩ : VInT)), c.params, c.regs, T, z, A, lj, _, fR, (HS.sub hE (a05 _ _)), E, lC, (agC rfl (agC rfl agN)), (by first | omega | exact ⟨by omega, by omega⟩), (by first | omega | (simp; omega)), (by exact fun m hm => by first | exact da (J m hm) | exact da (fun y hy => J m hm y (a0d hy)) | exact aS (J m hm) (a0l (aQ (aG (J m hm)))) | exact aS (J m hm) (bm (aQ (aG (J m hm)))))⟩
   have h9 := f9
   try simp only [BS] at h9
   refine wT 1 [] 149 151 [] [(149, (.bool (ad == 10)))] rfl fun _ => ?_
   refine am 0 1 (v := (ad == 10)) rfl rfl rfl rfl (fun go => ?_) (fun go => ?_)
   ·
    have ib := go
    try simp only [BS] at ib
    obtain ⟨nm, lb, e0, cl, nv⟩ := SF.open a7 ag (q := 5) (i := ii) rfl (by first | omega | (dsimp only; omega))
    have e0 : HS _ _ _ [_, _, _, _, _, nm, _, lb] _ := e0
    have cl : OS dd (.slice (hv.getD ii default).h.a (hv.getD ii default).h.n (hv.getD ii default).h.k) (lv.getD ii default) lb := cl
    have qh := OS.nlen cl
    refine aa ?_
    refine wTo 2 0 [] 152 153 [] [(152, (.pointer (some ⟨sB (.slice (hv.getD ii default).h.a (hv.getD ii default).h.n (hv.getD ii default).h.k), sO (.slice (hv.getD ii default).h.a (hv.getD ii default).h.n (hv.getD ii default).h.k) + kk * Rp.sz VInT, none⟩))), (153, (iI (U - 2)))] rfl fun _ => ?_
    refine az (ap rfl rfl rfl) rfl rfl (m4.word_c ex (U - 2) (1099511627776) (HS.call e0) (by first | omega | (dsimp only; omega)) (by first | omega | (dsimp only; omega)) hT) ?_
    rintro _ qx ⟨mZ, qj, d3, hF, rfl, re⟩
    replace hF : HS _ _ _ [_, _, _, _, _, _, _, _] _ := HS.back e0 rfl hF
    replace cl := cl.mono d3
    replace E := E.mono d3
    refine wTo 3 3 [] 155 157 [] [(157, (.pointer (some ⟨sB (.slice (hv.getD ii default).h.a (hv.getD ii default).h.n (hv.getD ii default).h.k), sO (.slice (hv.getD ii default).h.a (hv.getD ii default).h.n (hv.getD ii default).h.k) + kk * Rp.sz VInT + 4, none⟩)))] rfl fun _ => ?_
    refine aL (bY (α := VInT) (j := kk) (off := 4) (q := 7) (⟨(⟨((lv.getD ii default).getD kk default).i.op, ((lv.getD ii default).getD kk default).i.a, ((lv.getD ii default).getD kk default).i.b, ((lv.getD ii default).getD kk default).i.c, mZ⟩ : InsT), ((lv.getD ii default).getD kk default).args⟩ : VInT) cl hF rfl rfl rfl rfl rfl rfl rfl rfl (aK (x := default) (by first | omega | (dsimp only; omega))) rfl (by rintro cs ⟨c4, c7, rfl, c5, ay, a0, a1, a2, c6⟩; exact ⟨a04 rfl, ⟨c4, c7, rfl, c5, ay, a0, a1, by first | omega | (dsimp only; omega), c6⟩⟩)) rfl ?_
    rintro _ qy pc ⟨lL, (nQ : HS _ _ _ [_, _, _, _, _, _, _, pc] _), _⟩
    have pA := OS.len' lL
    refine ae 0 rfl ?_
    obtain ⟨ll, hG, lD⟩ := SF.shut nv (d3) nQ (q := 5) (m := 7) (by decide) rfl rfl lL
    have hG : HS _ _ _ [_, _, _, _, _, ll, _, []] _ := hG
    have pO := FAM.len lD
    exact a8 _ _ ⟨hv, lv.set ii ((lv.getD ii default).set kk (⟨(⟨((lv.getD ii default).getD kk default).i.op, ((lv.getD ii default).getD kk default).i.a, ((lv.getD ii default).getD kk default).i.b, ((lv.getD ii default).getD kk default).i.c, mZ⟩ : InsT), ((lv.getD ii default).getD kk default).args⟩ : VInT)), c.params, c.regs, T, z, A, ll, _, (d3), (HS.sub hG (a05 _ _)), E, lD, (agC rfl (agC rfl agN)), (by first | omega | exact ⟨by omega, by omega⟩), (by first | omega | (simp; omega)), (by exact fun m hm => by first | exact da (J m hm) | exact da (fun y hy => J m hm y (a0d hy)) | exact aS (J m hm) (a0l (aQ (aG (J m hm)))) | exact aS (J m hm) (bm (aQ (aG (J m hm)))))⟩
   have ib := go
   try simp only [BS] at ib
   refine wT 1 [] 158 160 [] [(158, (.bool (ad == 11)))] rfl fun _ => ?_
   refine am 0 1 (v := (ad == 11)) rfl rfl rfl rfl (fun g0 => ?_) (fun g0 => ?_)
   ·
    have ih := g0
    try simp only [BS] at ih
    obtain ⟨nn, lc, e5, b4, nw⟩ := SF.open a7 ag (q := 5) (i := ii) rfl (by first | omega | (dsimp only; omega))
    have e5 : HS _ _ _ [_, _, _, _, _, nn, _, lc] _ := e5
    have b4 : OS dd (.slice (hv.getD ii default).h.a (hv.getD ii default).h.n (hv.getD ii default).h.k) (lv.getD ii default) lc := b4
    have qi := OS.nlen b4
    refine aa ?_
    obtain ⟨d2, lX⟩ := Sv.view (OS.sv b4 e5 (i := 7) rfl)
    obtain ⟨pl, pm, pn, po, pr, m7⟩ := VInT.fx (lX kk)
    refine wUo 5 0 [(4, .o (.slice (cA (d2 kk) 5) ((lv.getD ii default).getD kk default).args.length (cK (d2 kk) 5)))] 161 165 [] [(161, (.pointer (some ⟨sB (.slice (hv.getD ii default).h.a (hv.getD ii default).h.n (hv.getD ii default).h.k), sO (.slice (hv.getD ii default).h.a (hv.getD ii default).h.n (hv.getD ii default).h.k) + kk * Rp.sz VInT, none⟩))), (165, (.slice (cA (d2 kk) 5) ((lv.getD ii default).getD kk default).args.length (cK (d2 kk) 5)))] (ql 25 5 (VInT.vw (lX kk) (by first | omega | (dsimp only; omega))) rfl rfl) rfl fun _ => ?_
    have e6 := HS.snoc e5
    have e6 : HS _ _ _ [_, _, _, _, _, _, _, _, []] _ := e6
    refine aH (bC (α := Int) (q := 8) (OS.nil : OS dd (.slice none 0 0) ([] : List Int) []) e6 rfl rfl rfl (SR.sv m7 e6) rfl rfl rfl rfl rfl rfl rfl (by first | omega | (simp only [a06, a0a, a0g]; first | omega | (have hq := aQ (i := kk) (aG (i := ii) e2); omega)))) rfl rfl ?_
    rintro _ qz mS ⟨oA, o5, rfl, hp, (nR : HS _ _ _ [_, _, _, _, _, _, _, _, mS] _), _⟩
    have hp : OS dd (.slice oA ((lv.getD ii default).getD kk default).args.length o5) ((lv.getD ii default).getD kk default).args mS := hp
    refine wm (iI (U - 2)) rfl rfl rfl ?_
    refine aH (bu (α := Int) (ps := [(0, (iI (U - 2)))]) (cells := [(iI (U - 2))]) ([U - 2] : List Int) nR rfl rfl rfl (by kernel_rfl) ⟨[(iI (U - 2))], [], rfl, ⟨rfl, by first | omega | (dsimp only; omega)⟩, rfl⟩ rfl) rfl rfl ?_
    rintro _ qA pd ⟨q1, rl, rfl, nE, (lT : HS _ _ _ [_, _, _, _, _, _, _, _, _, pd] _), _⟩
    refine aH (bC (α := Int) (q := 8) hp lT rfl rfl rfl (OS.sv nE lT (i := 9) rfl) rfl rfl rfl rfl rfl rfl rfl (by first | omega | (simp only [a06, a0a, a0g]; first | omega | (have hq := aQ (i := kk) (aG (i := ii) e2); omega)))) rfl rfl ?_
    rintro _ qB pe ⟨oB, o6, rfl, nF, (nS : HS _ _ _ [_, _, _, _, _, _, _, _, pe, _] _), _⟩
    refine wTo 2 9 [] 170 171 [] [(171, (.pointer (some ⟨sB (.slice (hv.getD ii default).h.a (hv.getD ii default).h.n (hv.getD ii default).h.k), sO (.slice (hv.getD ii default).h.a (hv.getD ii default).h.n (hv.getD ii default).h.k) + kk * Rp.sz VInT + 5, none⟩)))] rfl fun _ => ?_
    obtain ⟨qk, d4, hH, nJ, qa⟩ := OS.frz nF nS (i := 8) rfl
    have hH : HS _ _ _ [_, _, _, _, _, _, _, _, [], _] _ := hH
    replace b4 := b4.mono d4
    replace E := E.mono d4
    refine aL (bY (α := VInT) (j := kk) (off := 5) (q := 7) (⟨(⟨((lv.getD ii default).getD kk default).i.op, ((lv.getD ii default).getD kk default).i.a, ((lv.getD ii default).getD kk default).i.b, ((lv.getD ii default).getD kk default).i.c, ((lv.getD ii default).getD kk default).i.n⟩ : InsT), ((lv.getD ii default).getD kk default).args ++ ([U - 2] : List Int)⟩ : VInT) b4 hH rfl rfl rfl rfl rfl rfl rfl rfl (aK (x := default) (by first | omega | (dsimp only; omega))) rfl (by rintro cs ⟨c4, c7, rfl, c5, ay, a0, a1, a2, c6⟩; exact ⟨a04 rfl, ⟨oB, o6, rfl, c5, ay, a0, a1, a2, nJ⟩⟩)) rfl ?_
    rintro _ qC pf ⟨lM, (nT : HS _ _ _ [_, _, _, _, _, _, _, pf, _, _] _), _⟩
    have pB := OS.len' lM
    refine ae 0 rfl ?_
    obtain ⟨lm, hI, lE⟩ := SF.shut nw (d4) nT (q := 5) (m := 7) (by decide) rfl rfl lM
    have hI : HS _ _ _ [_, _, _, _, _, lm, _, [], _, _] _ := hI
    have pP := FAM.len lE
    exact a8 _ _ ⟨hv, lv.set ii ((lv.getD ii default).set kk (⟨(⟨((lv.getD ii default).getD kk default).i.op, ((lv.getD ii default).getD kk default).i.a, ((lv.getD ii default).getD kk default).i.b, ((lv.getD ii default).getD kk default).i.c, ((lv.getD ii default).getD kk default).i.n⟩ : InsT), ((lv.getD ii default).getD kk default).args ++ ([U - 2] : List Int)⟩ : VInT)), c.params, c.regs, T, z, A, lm, _, (d4), (HS.sub hI (a05 _ _)), E, lE, (agC rfl (agC rfl agN)), (by first | omega | exact ⟨by omega, by omega⟩), (by first | omega | (simp; omega)), (by exact fun m hm => by first | exact da (J m hm) | exact da (fun y hy => J m hm y (a0d hy)) | exact aS (J m hm) (a0l (aQ (aG (J m hm)))) | exact aS (J m hm) (bm (aQ (aG (J m hm)))))⟩
   have ih := g0
   try simp only [BS] at ih
   refine wT 1 [] 172 174 [] [(172, (.bool (ad == 12)))] rfl fun _ => ?_
   refine am 0 0 (v := (ad == 12)) rfl rfl rfl rfl (fun g1 => ?_) (fun g1 => ?_)
   ·
    have ik := g1
    try simp only [BS] at ik
    refine aa ?_
    refine wRo 8 0 [(1, .o (.slice z hv.length A)), (4, .o (.slice z hv.length A))] 175 182 [] [(176, (.slice z hv.length A)), (182, (iI (if (if (hv.length : Int) < U - 2 then (hv.length : Int) else U - 2) > (0 : Int) then (if (hv.length : Int) < U - 2 then (hv.length : Int) else U - 2) else (0 : Int))))] (vA (ql 22 2 (HS.hc ag (i := 3) rfl) rfl rfl) (vA (ql 22 2 (HS.hc ag (i := 3) rfl) rfl rfl) trivial)) rfl fun _ => ?_
    refine aH (rs_cutOt (α := BlkH) (j := (if (if (hv.length : Int) < U - 2 then (hv.length : Int) else U - 2) > (0 : Int) then (if (hv.length : Int) < U - 2 then (hv.length : Int) else U - 2) else (0 : Int)).toNat) E ag (q := 4) rfl rfl rfl rfl (optN (by first | omega | (dsimp only; omega))) (by first | omega | (dsimp only; omega))) rfl rfl ?_
    rintro _ _ _ ⟨lY, mP, rfl, ea, nH⟩
    simp only at ea; replace ea := ea.symm; subst ea
    obtain ⟨ln, nq, ng, lF⟩ := FAM.take (if (if (hv.length : Int) < U - 2 then (hv.length : Int) else U - 2) > (0 : Int) then (if (hv.length : Int) < U - 2 then (hv.length : Int) else U - 2) else (0 : Int)).toNat a7
    have hK := HS.open ag (i := 5) rfl (List.Perm.of_eq ng)
    have hK : HS _ _ _ [_, _, _, _, _, ln, _, nq] _ := hK
    have pQ := FAM.len lF
    refine wTo 1 9 [] 184 184 [] [(184, (.pointer (some ⟨b9, 2, none⟩)))] rfl fun _ => ?_
    refine aL (aE (q := 3) hK rfl rfl rfl rfl rfl rfl rfl rfl rfl) rfl ?_
    rintro _ qD _ ⟨(nU : HS _ _ _ [_, _, _, [(b9, .cells [(iI c.params), (iI c.regs), (.slice lY (hv.take (if (if (hv.length : Int) < U - 2 then (hv.length : Int) else U - 2) > (0 : Int) then (if (hv.length : Int) < U - 2 then (hv.length : Int) else U - 2) else (0 : Int)).toNat).length mP)] none false)], _, _, _, _] _), _⟩
    refine ae 0 rfl ?_
    exact a8 _ _ ⟨hv.take (if (if (hv.length : Int) < U - 2 then (hv.length : Int) else U - 2) > (0 : Int) then (if (hv.length : Int) < U - 2 then (hv.length : Int) else U - 2) else (0 : Int)).toNat, lv.take (if (if (hv.length : Int) < U - 2 then (hv.length : Int) else U - 2) > (0 : Int) then (if (hv.length : Int) < U - 2 then (hv.length : Int) else U - 2) else (0 : Int)).toNat, c.params, c.regs, T, lY, mP, ln, _, fR, (HS.sub nU (a05 _ _)), nH, lF, (agC rfl (agC rfl agN)), (by first | omega | exact ⟨by omega, by omega⟩), (by first | omega | (simp; omega)), (by exact fun m hm => by first | exact da (J m hm) | exact da (fun y hy => J m hm y (a0d hy)) | exact aS (J m hm) (a0l (aQ (aG (J m hm)))) | exact aS (J m hm) (bm (aQ (aG (J m hm)))))⟩
   have ik := g1
   try simp only [BS] at ik
   exact a8 _ _ ⟨hv, lv, c.params, c.regs, T, z, A, ch, _, fR, ag, E, a7, (agC rfl (agC rfl agN)), (by first | omega | exact ⟨by omega, by omega⟩), (by first | omega | (simp; omega)), (by exact fun m hm => by first | exact da (J m hm) | exact da (fun y hy => J m hm y (a0d hy)) | exact aS (J m hm) (a0l (aQ (aG (J m hm)))) | exact aS (J m hm) (bm (aQ (aG (J m hm)))))⟩
  skip
  rintro rV rJ ⟨a6, dt, pq, rq, bz, a4, a5, ds, rv, oH, mL, ci, h2, mB, j0, j1, j2⟩
  refine au _ mB (fun _ => ?_)
  clear mB
  have pi := FAM.len h2
  refine ah 3 rfl ?_
  refine aa ?_
  let oy : Value := (.agg ⟨[(iI pq), (iI rq), (.slice a4 a6.length a5)]⟩)
  refine wUo 1 0 [(0, .o oy)] 185 185 [] [(185, oy)] (qn 24 0 3 (HS.hc mL (i := 3) rfl) rfl rfl rfl rfl) rfl fun _ => ?_
  refine aL (aE (q := 1) mL rfl rfl rfl rfl rfl rfl rfl rfl rfl) rfl ?_
  rintro _ qE _ ⟨(nV : HS _ _ _ [_, [(b3, .cells [(iI pq), (iI rq), (.slice a4 a6.length a5)] none false)], _, [(b9, .cells [(iI pq), (iI rq), (.slice a4 a6.length a5)] none false)], bz, ds, _] _), _⟩
  refine ae 1 rfl ?_
  obtain ⟨qm, lq, hM, ny⟩ := SF.freeze h2 nV (q := 5) rfl
  have hM : HS _ _ _ [_, _, _, _, _, [], _] _ := hM
  replace ci := ci.mono lq
  obtain ⟨qo, lr, fd, nK, qb⟩ := OS.frz ci hM (i := 4) rfl
  have fd : HS _ _ _ [_, _, _, _, [], _, _] _ := fd
  have lR := blkH_rows nK (by omega) (fun i hi => SR.mono lr (ny i hi))
  have od := SR.len' lR
  have mH := SR.norm lR
  refine ak ⟨.inr rfl, _, (rC rfl (ldVN rfl rfl (HS.hc fd (i := 1) rfl) rfl) rN), (⟨pq, rq, (blkZ a6 dt)⟩ : VFnT), a4, a5, _, (fT (fT (fT (fT (fT (f2) f3) f4) oH) lq) lr), (HS.forget fd), (by simp only [od]; rfl), (by first | omega | (dsimp only; omega)), (by first | omega | (dsimp only; omega)), mH, (by exact a0b blkZ_len j1), (by exact fun m hm => blkZ_ok (j2 m hm))⟩
 have l7 := kg
 try simp only [BS] at l7
 refine aa ?_
 refine wTo 1 0 [] 72 72 [] [(72, (.agg ⟨[(iI 0), (iI 0), (iI 0), (iI 0), (iI 0), (.slice none 0 0)]⟩))] rfl fun _ => ?_
 refine aH (bw c9 rfl rfl) rfl rfl ?_
 rintro _ qF _ ⟨ar, rfl, (lU : HS _ _ _ [_, _, _, _, _, _, _, [(ar, .cells [(iI 0), (iI 0), (iI 0), (iI 0), (iI 0), (.slice none 0 0)] none false)]] _), _⟩
 refine wa (.pointer (some ⟨ar, 0, none⟩)) rfl rfl rfl ?_
 refine ae 2 rfl ?_
 refine aa ?_
 refine wm (.pointer (some ⟨b6, 0, none⟩)) rfl rfl rfl ?_
 refine az (ap rfl rfl rfl) rfl rfl (m4.cv ex (⟨how⟩ : DigT) (40) (HS.callOwn lU (i := 2) rfl) (by first | omega | (dsimp only; omega)) (by first | omega | (dsimp only; omega)) hT (by first | omega | (dsimp only; omega))) ?_
 rintro _ qG ⟨N, k6, qp, dk, fi, rfl, pj, rf⟩
 replace fi : HS _ _ _ [_, _, [(b6, .cells [(iI k6.n)] none false)], _, _, _, _, _] _ := HS.backOwn lU (i := 2) rfl rfl (fun _ hb => hb) fi
 replace hT := hT.mono dk
 refine wUo 2 2 [] 76 76 [13] [(13, (iI (N - 2)))] (vi (n := N - 2) (by first | omega | (dsimp only; omega))) rfl fun _ => ?_
 refine ae 3 rfl ?_
 refine aa ?_
 refine wm (.pointer (some ⟨b6, 0, none⟩)) rfl rfl rfl ?_
 refine az (ap rfl rfl rfl) rfl rfl (m4.cv ex (⟨k6.n⟩ : DigT) (14) (HS.callOwn fi (i := 2) rfl) (by first | omega | (dsimp only; omega)) (by first | omega | (dsimp only; omega)) hT (by first | omega | (dsimp only; omega))) ?_
 rintro _ qH ⟨V, k7, a3, dl, hQ, rfl, pk, rg⟩
 replace hQ : HS _ _ _ [_, _, [(b6, .cells [(iI k7.n)] none false)], _, _, _, _, _] _ := HS.backOwn fi (i := 2) rfl rfl (fun _ hb => hb) hQ
 replace hT := hT.mono dl
 replace b0 := (b0.mono dk).mono dl
 replace E := (E.mono dk).mono dl
 refine wa (iI V) rfl rfl rfl ?_
 refine ae 3 rfl ?_
 refine wT 1 [] 79 81 [] [(79, (.bool (V == 0)))] rfl fun _ => ?_
 obtain ⟨av, Y, Z⟩ := SF.shut0 my (fT (dk) dl) hQ (q := 5) (m := 6) (by decide) rfl rfl b0
 have Y : HS _ _ _ [_, _, _, _, _, av, [], _] _ := Y
 have pR := FAM.len Z
 refine bN (fun f H' => ∃ (a6 : List BlkH) (dt : List (List VInT)) (pq : Int) (rq : Int) (l1 : Int) (l2 : Int) (l3 : Int) (l4 : Int) (l5 : Int) (bva : List Int) (bl : Fp) (al : Option Addr) (an : Nat) (bb : Option Addr) (bk : Nat) (co : Fp) (F' : Fz), Fz.le a3 F' ∧ HS (Base.of H []) F' H' [h3, h4, [(b6, .cells [(iI k7.n)] none false)], [(b9, .cells [(iI pq), (iI rq), (.slice al a6.length an)] none false)], bl, co, [], [(ar, .cells [(iI l1), (iI l2), (iI l3), (iI l4), (iI l5), (.slice bb bva.length bk)] none false)]] R ∧ OS F' (.slice al a6.length an) a6 bl ∧ SR F' (.slice bb bva.length bk) bva ∧ SF F' a6 dt co ∧ aD f [(6, (.pointer (some ⟨b3, 0, none⟩))), (8, (.pointer (some ⟨b9, 0, none⟩)))] ∧ (in64 pq ∧ in64 rq) ∧ (a6.length ≤ 1000) ∧ (∀ m, (∀ j, okI m (c.blocks.getD j default).ins) → ∀ y ∈ dt, okI (m + 1) y)) (fun ax => ?_) ?_
 ·
  refine am 0 1 (v := (V == 0)) rfl rfl rfl rfl (fun g2 => ?_) (fun g2 => ?_)
  ·
   have il := g2
   try simp only [BS] at il
   refine aa ?_
   refine wTo 2 0 [] 82 83 [] [(82, (iI (N - 2))), (83, (.pointer (some ⟨b9, 0, none⟩)))] rfl fun _ => ?_
   refine aL (aE (q := 3) Y rfl rfl rfl rfl rfl rfl rfl rfl rfl) rfl ?_
   rintro _ qJ _ ⟨(nW : HS _ _ _ [_, _, _, [(b9, .cells [(iI (N - 2)), (iI c.regs), (.slice z hv.length A)] none false)], _, _, _, _] _), _⟩
   refine ae 0 rfl ?_
   exact ax _ _ ⟨hv, lv, N - 2, c.regs, 0, 0, 0, 0, 0, ([] : List Int), T, z, A, none, 0, av, _, fR, nW, E, (SR.nil : SR a3 (.slice none 0 0) ([] : List Int)), Z, (agC rfl (agC rfl agN)), (by first | omega | exact ⟨by omega, by omega⟩), (by first | omega | (simp; omega)), (by exact fun m hm => by first | exact da (J m hm) | exact da (fun y hy => J m hm y (a0d hy)) | exact aS (J m hm) (a0l (aQ (aG (J m hm)))) | exact aS (J m hm) (bm (aQ (aG (J m hm)))))⟩
  have il := g2
  try simp only [BS] at il
  refine wT 1 [] 84 86 [] [(84, (.bool (V == 1)))] rfl fun _ => ?_
  refine am 0 1 (v := (V == 1)) rfl rfl rfl rfl (fun g3 => ?_) (fun g3 => ?_)
  ·
   have it := g3
   try simp only [BS] at it
   refine aa ?_
   refine wTo 2 0 [] 87 88 [] [(87, (iI (N - 2))), (88, (.pointer (some ⟨b9, 1, none⟩)))] rfl fun _ => ?_
   refine aL (aE (q := 3) Y rfl rfl rfl rfl rfl rfl rfl rfl rfl) rfl ?_
   rintro _ qK _ ⟨(nX : HS _ _ _ [_, _, _, [(b9, .cells [(iI c.params), (iI (N - 2)), (.slice z hv.length A)] none false)], _, _, _, _] _), _⟩
   refine ae 0 rfl ?_
   exact ax _ _ ⟨hv, lv, c.params, N - 2, 0, 0, 0, 0, 0, ([] : List Int), T, z, A, none, 0, av, _, fR, nX, E, (SR.nil : SR a3 (.slice none 0 0) ([] : List Int)), Z, (agC rfl (agC rfl agN)), (by first | omega | exact ⟨by omega, by omega⟩), (by first | omega | (simp; omega)), (by exact fun m hm => by first | exact da (J m hm) | exact da (fun y hy => J m hm y (a0d hy)) | exact aS (J m hm) (a0l (aQ (aG (J m hm)))) | exact aS (J m hm) (bm (aQ (aG (J m hm)))))⟩
  have it := g3
  try simp only [BS] at it
  refine wT 1 [] 89 91 [] [(89, (.bool (V == 2)))] rfl fun _ => ?_
  refine am 0 1 (v := (V == 2)) rfl rfl rfl rfl (fun g4 => ?_) (fun g4 => ?_)
  ·
   have iz := g4
   try simp only [BS] at iz
   refine aa ?_
   refine wTo 4 0 [] 92 95 [] [(93, (iI (N - 2))), (95, (.pointer (some ⟨sB (.slice z hv.length A), sO (.slice z hv.length A) + ii * Rp.sz BlkH + 1, none⟩)))] rfl fun _ => ?_
   have nA := SF.put (⟨(hv.getD ii default).h, N - 2, (hv.getD ii default).reg, (hv.getD ii default).tgt, (hv.getD ii default).els⟩ : BlkH) Z (i := ii) rfl
   refine aL (bY (α := BlkH) (j := ii) (off := 1) (q := 4) (⟨(hv.getD ii default).h, N - 2, (hv.getD ii default).reg, (hv.getD ii default).tgt, (hv.getD ii default).els⟩ : BlkH) E Y rfl rfl rfl rfl rfl rfl rfl rfl (aK (x := default) (by first | omega | (dsimp only; omega))) rfl (by rintro cs ⟨rfl, ay, a0, a1, a2⟩; exact ⟨a04 rfl, ⟨rfl, by first | omega | (dsimp only; omega), a0, a1, a2⟩⟩)) rfl ?_
   rintro _ qL mT ⟨lN, (nY : HS _ _ _ [_, _, _, _, mT, _, _, _] _), _⟩
   have pC := OS.len' lN
   refine ae 0 rfl ?_
   exact ax _ _ ⟨hv.set ii (⟨(hv.getD ii default).h, N - 2, (hv.getD ii default).reg, (hv.getD ii default).tgt, (hv.getD ii default).els⟩ : BlkH), lv, c.params, c.regs, 0, 0, 0, 0, 0, ([] : List Int), mT, z, A, none, 0, av, _, fR, (by simpa only [a0i, a0g] using nY), (OS.norm lN), (SR.nil : SR a3 (.slice none 0 0) ([] : List Int)), nA, (agC rfl (agC rfl agN)), (by first | omega | exact ⟨by omega, by omega⟩), (by first | omega | (simp; omega)), (by exact fun m hm => by first | exact da (J m hm) | exact da (fun y hy => J m hm y (a0d hy)) | exact aS (J m hm) (a0l (aQ (aG (J m hm)))) | exact aS (J m hm) (bm (aQ (aG (J m hm)))))⟩
  have iz := g4
  try simp only [BS] at iz
  refine wT 1 [] 96 98 [] [(96, (.bool (V == 3)))] rfl fun _ => ?_
  refine am 0 1 (v := (V == 3)) rfl rfl rfl rfl (fun g5 => ?_) (fun g5 => ?_)
  ·
   have i1 := g5
   try simp only [BS] at i1
   refine aa ?_
   refine wTo 4 0 [] 99 102 [] [(100, (iI (N - 2))), (102, (.pointer (some ⟨sB (.slice z hv.length A), sO (.slice z hv.length A) + ii * Rp.sz BlkH + 2, none⟩)))] rfl fun _ => ?_
   have nB := SF.put (⟨(hv.getD ii default).h, (hv.getD ii default).fin, N - 2, (hv.getD ii default).tgt, (hv.getD ii default).els⟩ : BlkH) Z (i := ii) rfl
   refine aL (bY (α := BlkH) (j := ii) (off := 2) (q := 4) (⟨(hv.getD ii default).h, (hv.getD ii default).fin, N - 2, (hv.getD ii default).tgt, (hv.getD ii default).els⟩ : BlkH) E Y rfl rfl rfl rfl rfl rfl rfl rfl (aK (x := default) (by first | omega | (dsimp only; omega))) rfl (by rintro cs ⟨rfl, ay, a0, a1, a2⟩; exact ⟨a04 rfl, ⟨rfl, ay, by first | omega | (dsimp only; omega), a1, a2⟩⟩)) rfl ?_
   rintro _ qM mU ⟨lO, (nZ : HS _ _ _ [_, _, _, _, mU, _, _, _] _), _⟩
   have pD := OS.len' lO
   refine ae 0 rfl ?_
   exact ax _ _ ⟨hv.set ii (⟨(hv.getD ii default).h, (hv.getD ii default).fin, N - 2, (hv.getD ii default).tgt, (hv.getD ii default).els⟩ : BlkH), lv, c.params, c.regs, 0, 0, 0, 0, 0, ([] : List Int), mU, z, A, none, 0, av, _, fR, (by simpa only [a0i, a0g] using nZ), (OS.norm lO), (SR.nil : SR a3 (.slice none 0 0) ([] : List Int)), nB, (agC rfl (agC rfl agN)), (by first | omega | exact ⟨by omega, by omega⟩), (by first | omega | (simp; omega)), (by exact fun m hm => by first | exact da (J m hm) | exact da (fun y hy => J m hm y (a0d hy)) | exact aS (J m hm) (a0l (aQ (aG (J m hm)))) | exact aS (J m hm) (bm (aQ (aG (J m hm)))))⟩
  have i1 := g5
  try simp only [BS] at i1
  refine wT 1 [] 103 105 [] [(103, (.bool (V == 4)))] rfl fun _ => ?_
  refine am 0 1 (v := (V == 4)) rfl rfl rfl rfl (fun g6 => ?_) (fun g6 => ?_)
  ·
   have i2 := g6
   try simp only [BS] at i2
   refine aa ?_
   refine wTo 4 0 [] 106 109 [] [(107, (iI (N - 2))), (109, (.pointer (some ⟨sB (.slice z hv.length A), sO (.slice z hv.length A) + ii * Rp.sz BlkH + 3, none⟩)))] rfl fun _ => ?_
   have nC := SF.put (⟨(hv.getD ii default).h, (hv.getD ii default).fin, (hv.getD ii default).reg, N - 2, (hv.getD ii default).els⟩ : BlkH) Z (i := ii) rfl
   refine aL (bY (α := BlkH) (j := ii) (off := 3) (q := 4) (⟨(hv.getD ii default).h, (hv.getD ii default).fin, (hv.getD ii default).reg, N - 2, (hv.getD ii default).els⟩ : BlkH) E Y rfl rfl rfl rfl rfl rfl rfl rfl (aK (x := default) (by first | omega | (dsimp only; omega))) rfl (by rintro cs ⟨rfl, ay, a0, a1, a2⟩; exact ⟨a04 rfl, ⟨rfl, ay, a0, by first | omega | (dsimp only; omega), a2⟩⟩)) rfl ?_
   rintro _ qN mV ⟨lP, (n1 : HS _ _ _ [_, _, _, _, mV, _, _, _] _), _⟩
   have pE := OS.len' lP
   refine ae 0 rfl ?_
   exact ax _ _ ⟨hv.set ii (⟨(hv.getD ii default).h, (hv.getD ii default).fin, (hv.getD ii default).reg, N - 2, (hv.getD ii default).els⟩ : BlkH), lv, c.params, c.regs, 0, 0, 0, 0, 0, ([] : List Int), mV, z, A, none, 0, av, _, fR, (by simpa only [a0i, a0g] using n1), (OS.norm lP), (SR.nil : SR a3 (.slice none 0 0) ([] : List Int)), nC, (agC rfl (agC rfl agN)), (by first | omega | exact ⟨by omega, by omega⟩), (by first | omega | (simp; omega)), (by exact fun m hm => by first | exact da (J m hm) | exact da (fun y hy => J m hm y (a0d hy)) | exact aS (J m hm) (a0l (aQ (aG (J m hm)))) | exact aS (J m hm) (bm (aQ (aG (J m hm)))))⟩
  have i2 := g6
  try simp only [BS] at i2
  refine wT 1 [] 110 112 [] [(110, (.bool (V == 5)))] rfl fun _ => ?_
  refine am 0 1 (v := (V == 5)) rfl rfl rfl rfl (fun g7 => ?_) (fun g7 => ?_)
  ·
   have i3 := g7
   try simp only [BS] at i3
   refine aa ?_
   refine wTo 4 0 [] 113 116 [] [(114, (iI (N - 2))), (116, (.pointer (some ⟨sB (.slice z hv.length A), sO (.slice z hv.length A) + ii * Rp.sz BlkH + 4, none⟩)))] rfl fun _ => ?_
   have nD := SF.put (⟨(hv.getD ii default).h, (hv.getD ii default).fin, (hv.getD ii default).reg, (hv.getD ii default).tgt, N - 2⟩ : BlkH) Z (i := ii) rfl
   refine aL (bY (α := BlkH) (j := ii) (off := 4) (q := 4) (⟨(hv.getD ii default).h, (hv.getD ii default).fin, (hv.getD ii default).reg, (hv.getD ii default).tgt, N - 2⟩ : BlkH) E Y rfl rfl rfl rfl rfl rfl rfl rfl (aK (x := default) (by first | omega | (dsimp only; omega))) rfl (by rintro cs ⟨rfl, ay, a0, a1, a2⟩; exact ⟨a04 rfl, ⟨rfl, ay, a0, a1, by first | omega | (dsimp only; omega)⟩⟩)) rfl ?_
   rintro _ qO mW ⟨lQ, (n2 : HS _ _ _ [_, _, _, _, mW, _, _, _] _), _⟩
   have pF := OS.len' lQ
   refine ae 0 rfl ?_
   exact ax _ _ ⟨hv.set ii (⟨(hv.getD ii default).h, (hv.getD ii default).fin, (hv.getD ii default).reg, (hv.getD ii default).tgt, N - 2⟩ : BlkH), lv, c.params, c.regs, 0, 0, 0, 0, 0, ([] : List Int), mW, z, A, none, 0, av, _, fR, (by simpa only [a0i, a0g] using n2), (OS.norm lQ), (SR.nil : SR a3 (.slice none 0 0) ([] : List Int)), nD, (agC rfl (agC rfl agN)), (by first | omega | exact ⟨by omega, by omega⟩), (by first | omega | (simp; omega)), (by exact fun m hm => by first | exact da (J m hm) | exact da (fun y hy => J m hm y (a0d hy)) | exact aS (J m hm) (a0l (aQ (aG (J m hm)))) | exact aS (J m hm) (bm (aQ (aG (J m hm)))))⟩
  have i3 := g7
  try simp only [BS] at i3
  refine wT 1 [] 117 119 [] [(117, (.bool (V == 6)))] rfl fun _ => ?_
  refine am 0 1 (v := (V == 6)) rfl rfl rfl rfl (fun g8 => ?_) (fun g8 => ?_)
  ·
   have ja := g8
   try simp only [BS] at ja
   refine aa ?_
   refine wTo 5 0 [] 120 124 [] [(121, (iI (N - 2))), (124, (.pointer (some ⟨ar, 0, none⟩)))] rfl fun _ => ?_
   refine aL (aE (q := 7) Y rfl rfl rfl rfl rfl rfl rfl rfl rfl) rfl ?_
   rintro _ qP _ ⟨(n3 : HS _ _ _ [_, _, _, _, _, _, _, [(ar, .cells [(iI (N - 2)), (iI 0), (iI 0), (iI 0), (iI 0), (.slice none 0 0)] none false)]] _), _⟩
   refine ae 0 rfl ?_
   exact ax _ _ ⟨hv, lv, c.params, c.regs, N - 2, 0, 0, 0, 0, ([] : List Int), T, z, A, none, 0, av, _, fR, n3, E, (SR.nil : SR a3 (.slice none 0 0) ([] : List Int)), Z, (agC rfl (agC rfl agN)), (by first | omega | exact ⟨by omega, by omega⟩), (by first | omega | (simp; omega)), (by exact fun m hm => by first | exact da (J m hm) | exact da (fun y hy => J m hm y (a0d hy)) | exact aS (J m hm) (a0l (aQ (aG (J m hm)))) | exact aS (J m hm) (bm (aQ (aG (J m hm)))))⟩
  have ja := g8
  try simp only [BS] at ja
  refine wT 1 [] 125 127 [] [(125, (.bool (V == 7)))] rfl fun _ => ?_
  refine am 0 1 (v := (V == 7)) rfl rfl rfl rfl (fun g9 => ?_) (fun g9 => ?_)
  ·
   have jb := g9
   try simp only [BS] at jb
   refine aa ?_
   refine wTo 5 0 [] 128 132 [] [(129, (iI (N - 2))), (132, (.pointer (some ⟨ar, 1, none⟩)))] rfl fun _ => ?_
   refine aL (aE (q := 7) Y rfl rfl rfl rfl rfl rfl rfl rfl rfl) rfl ?_
   rintro _ qQ _ ⟨(n4 : HS _ _ _ [_, _, _, _, _, _, _, [(ar, .cells [(iI 0), (iI (N - 2)), (iI 0), (iI 0), (iI 0), (.slice none 0 0)] none false)]] _), _⟩
   refine ae 0 rfl ?_
   exact ax _ _ ⟨hv, lv, c.params, c.regs, 0, N - 2, 0, 0, 0, ([] : List Int), T, z, A, none, 0, av, _, fR, n4, E, (SR.nil : SR a3 (.slice none 0 0) ([] : List Int)), Z, (agC rfl (agC rfl agN)), (by first | omega | exact ⟨by omega, by omega⟩), (by first | omega | (simp; omega)), (by exact fun m hm => by first | exact da (J m hm) | exact da (fun y hy => J m hm y (a0d hy)) | exact aS (J m hm) (a0l (aQ (aG (J m hm)))) | exact aS (J m hm) (bm (aQ (aG (J m hm)))))⟩
  have jb := g9
  try simp only [BS] at jb
  refine wT 1 [] 133 135 [] [(133, (.bool (V == 8)))] rfl fun _ => ?_
  refine am 0 1 (v := (V == 8)) rfl rfl rfl rfl (fun ha => ?_) (fun ha => ?_)
  ·
   have jc := ha
   try simp only [BS] at jc
   refine aa ?_
   refine wTo 5 0 [] 136 140 [] [(137, (iI (N - 2))), (140, (.pointer (some ⟨ar, 2, none⟩)))] rfl fun _ => ?_
   refine aL (aE (q := 7) Y rfl rfl rfl rfl rfl rfl rfl rfl rfl) rfl ?_
   rintro _ qR _ ⟨(n5 : HS _ _ _ [_, _, _, _, _, _, _, [(ar, .cells [(iI 0), (iI 0), (iI (N - 2)), (iI 0), (iI 0), (.slice none 0 0)] none false)]] _), _⟩
   refine ae 0 rfl ?_
   exact ax _ _ ⟨hv, lv, c.params, c.regs, 0, 0, N - 2, 0, 0, ([] : List Int), T, z, A, none, 0, av, _, fR, n5, E, (SR.nil : SR a3 (.slice none 0 0) ([] : List Int)), Z, (agC rfl (agC rfl agN)), (by first | omega | exact ⟨by omega, by omega⟩), (by first | omega | (simp; omega)), (by exact fun m hm => by first | exact da (J m hm) | exact da (fun y hy => J m hm y (a0d hy)) | exact aS (J m hm) (a0l (aQ (aG (J m hm)))) | exact aS (J m hm) (bm (aQ (aG (J m hm)))))⟩
  have jc := ha
  try simp only [BS] at jc
  refine wT 1 [] 141 143 [] [(141, (.bool (V == 9)))] rfl fun _ => ?_
  refine am 0 1 (v := (V == 9)) rfl rfl rfl rfl (fun he => ?_) (fun he => ?_)
  ·
   have jq := he
   try simp only [BS] at jq
   refine aa ?_
   refine wTo 5 0 [] 144 148 [] [(145, (iI (N - 2))), (148, (.pointer (some ⟨ar, 3, none⟩)))] rfl fun _ => ?_
   refine aL (aE (q := 7) Y rfl rfl rfl rfl rfl rfl rfl rfl rfl) rfl ?_
   rintro _ qS _ ⟨(n6 : HS _ _ _ [_, _, _, _, _, _, _, [(ar, .cells [(iI 0), (iI 0), (iI 0), (iI (N - 2)), (iI 0), (.slice none 0 0)] none false)]] _), _⟩
   refine ae 0 rfl ?_
   exact ax _ _ ⟨hv, lv, c.params, c.regs, 0, 0, 0, N - 2, 0, ([] : List Int), T, z, A, none, 0, av, _, fR, n6, E, (SR.nil : SR a3 (.slice none 0 0) ([] : List Int)), Z, (agC rfl (agC rfl agN)), (by first | omega | exact ⟨by omega, by omega⟩), (by first | omega | (simp; omega)), (by exact fun m hm => by first | exact da (J m hm) | exact da (fun y hy => J m hm y (a0d hy)) | exact aS (J m hm) (a0l (aQ (aG (J m hm)))) | exact aS (J m hm) (bm (aQ (aG (J m hm)))))⟩
  have jq := he
  try simp only [BS] at jq
  refine wT 1 [] 149 151 [] [(149, (.bool (V == 10)))] rfl fun _ => ?_
  refine am 0 1 (v := (V == 10)) rfl rfl rfl rfl (fun hf => ?_) (fun hf => ?_)
  ·
   have jw := hf
   try simp only [BS] at jw
   refine aa ?_
   refine wTo 2 0 [] 152 153 [] [(152, (.pointer (some ⟨ar, 0, none⟩))), (153, (iI (N - 2)))] rfl fun _ => ?_
   refine az (ap rfl rfl rfl) rfl rfl (m4.word_c ex (N - 2) (1099511627776) (HS.call Y) (by first | omega | (dsimp only; omega)) (by first | omega | (dsimp only; omega)) hT) ?_
   rintro _ qT ⟨m0, oz, hj, hR, rfl, rh⟩
   replace hR : HS _ _ _ [_, _, _, _, _, _, _, _] _ := HS.back Y rfl hR
   replace E := E.mono hj
   replace Z := SF.mono hj Z
   refine wTo 3 3 [] 155 157 [] [(157, (.pointer (some ⟨ar, 4, none⟩)))] rfl fun _ => ?_
   refine aL (aE (q := 7) hR rfl rfl rfl rfl rfl rfl rfl rfl rfl) rfl ?_
   rintro _ qU _ ⟨(n7 : HS _ _ _ [_, _, _, _, _, _, _, [(ar, .cells [(iI 0), (iI 0), (iI 0), (iI 0), (iI m0), (.slice none 0 0)] none false)]] _), _⟩
   refine ae 0 rfl ?_
   exact ax _ _ ⟨hv, lv, c.params, c.regs, 0, 0, 0, 0, m0, ([] : List Int), T, z, A, none, 0, av, _, (hj), n7, E, (SR.nil : SR oz (.slice none 0 0) ([] : List Int)), Z, (agC rfl (agC rfl agN)), (by first | omega | exact ⟨by omega, by omega⟩), (by first | omega | (simp; omega)), (by exact fun m hm => by first | exact da (J m hm) | exact da (fun y hy => J m hm y (a0d hy)) | exact aS (J m hm) (a0l (aQ (aG (J m hm)))) | exact aS (J m hm) (bm (aQ (aG (J m hm)))))⟩
  have jw := hf
  try simp only [BS] at jw
  refine wT 1 [] 158 160 [] [(158, (.bool (V == 11)))] rfl fun _ => ?_
  refine am 0 1 (v := (V == 11)) rfl rfl rfl rfl (fun hg => ?_) (fun hg => ?_)
  ·
   have kc := hg
   try simp only [BS] at kc
   refine aa ?_
   refine wUo 5 0 [(4, .o (.slice none 0 0))] 161 165 [] [(161, (.pointer (some ⟨ar, 0, none⟩))), (165, (.slice none 0 0))] (ql 25 5 (HS.hc Y (i := 7) rfl) rfl rfl) rfl fun _ => ?_
   have f0 := HS.snoc Y
   have f0 : HS _ _ _ [_, _, _, _, _, _, _, _, []] _ := f0
   refine aH (bC (α := Int) (q := 8) (OS.nil : OS a3 (.slice none 0 0) ([] : List Int) []) f0 rfl rfl rfl (SR.sv (SR.nil : SR a3 _ (([] : List Int))) f0) rfl rfl rfl rfl rfl rfl rfl (by first | omega | (simp only [a06, a0a, a0g]; first | omega | (have hq := aQ (i := kk) (aG (i := ii) e2); omega)))) rfl rfl ?_
   rintro _ qV mX ⟨oC, o7, rfl, hr, (n8 : HS _ _ _ [_, _, _, _, _, _, _, _, mX] _), _⟩
   have hr : OS a3 (.slice oC ([] : List Int).length o7) ([] : List Int) mX := hr
   refine wm (iI (N - 2)) rfl rfl rfl ?_
   refine aH (bu (α := Int) (ps := [(0, (iI (N - 2)))]) (cells := [(iI (N - 2))]) ([N - 2] : List Int) n8 rfl rfl rfl (by kernel_rfl) ⟨[(iI (N - 2))], [], rfl, ⟨rfl, by first | omega | (dsimp only; omega)⟩, rfl⟩ rfl) rfl rfl ?_
   rintro _ qW pg ⟨q2, rm, rfl, nG, (lW : HS _ _ _ [_, _, _, _, _, _, _, _, _, pg] _), _⟩
   refine aH (bC (α := Int) (q := 8) hr lW rfl rfl rfl (OS.sv nG lW (i := 9) rfl) rfl rfl rfl rfl rfl rfl rfl (by first | omega | (simp only [a06, a0a, a0g]; first | omega | (have hq := aQ (i := kk) (aG (i := ii) e2); omega)))) rfl rfl ?_
   rintro _ qX mY ⟨h5, k3, rfl, ht, (n9 : HS _ _ _ [_, _, _, _, _, _, _, _, mY, _] _), _⟩
   have ht : OS a3 (.slice h5 ([N - 2] : List Int).length k3) ([N - 2] : List Int) mY := ht
   refine wTo 2 9 [] 170 171 [] [(171, (.pointer (some ⟨ar, 5, none⟩)))] rfl fun _ => ?_
   refine aL (aE (q := 7) n9 rfl rfl rfl rfl rfl rfl rfl rfl rfl) rfl ?_
   rintro _ qY _ ⟨(oa : HS _ _ _ [_, _, _, _, _, _, _, [(ar, .cells [(iI 0), (iI 0), (iI 0), (iI 0), (iI 0), (.slice h5 ([N - 2] : List Int).length k3)] none false)], _, _] _), _⟩
   refine ae 0 rfl ?_
   obtain ⟨qr, hk, hS, nL, qc⟩ := OS.frz ht oa (i := 8) rfl
   have hS : HS _ _ _ [_, _, _, _, _, _, _, _, [], _] _ := hS
   replace E := E.mono hk
   replace Z := SF.mono hk Z
   exact ax _ _ ⟨hv, lv, c.params, c.regs, 0, 0, 0, 0, 0, ([N - 2] : List Int), T, z, A, h5, k3, av, _, (hk), (HS.sub hS (a05 _ _)), E, nL, Z, (agC rfl (agC rfl agN)), (by first | omega | exact ⟨by omega, by omega⟩), (by first | omega | (simp; omega)), (by exact fun m hm => by first | exact da (J m hm) | exact da (fun y hy => J m hm y (a0d hy)) | exact aS (J m hm) (a0l (aQ (aG (J m hm)))) | exact aS (J m hm) (bm (aQ (aG (J m hm)))))⟩
  have kc := hg
  try simp only [BS] at kc
  refine wT 1 [] 172 174 [] [(172, (.bool (V == 12)))] rfl fun _ => ?_
  refine am 0 0 (v := (V == 12)) rfl rfl rfl rfl (fun hh => ?_) (fun hh => ?_)
  ·
   have kd := hh
   try simp only [BS] at kd
   refine aa ?_
   refine wRo 8 0 [(1, .o (.slice z hv.length A)), (4, .o (.slice z hv.length A))] 175 182 [] [(176, (.slice z hv.length A)), (182, (iI (if (if (hv.length : Int) < N - 2 then (hv.length : Int) else N - 2) > (0 : Int) then (if (hv.length : Int) < N - 2 then (hv.length : Int) else N - 2) else (0 : Int))))] (vA (ql 22 2 (HS.hc Y (i := 3) rfl) rfl rfl) (vA (ql 22 2 (HS.hc Y (i := 3) rfl) rfl rfl) trivial)) rfl fun _ => ?_
   refine aH (rs_cutOt (α := BlkH) (j := (if (if (hv.length : Int) < N - 2 then (hv.length : Int) else N - 2) > (0 : Int) then (if (hv.length : Int) < N - 2 then (hv.length : Int) else N - 2) else (0 : Int)).toNat) E Y (q := 4) rfl rfl rfl rfl (optN (by first | omega | (dsimp only; omega))) (by first | omega | (dsimp only; omega))) rfl rfl ?_
   rintro _ _ _ ⟨lZ, mQ, rfl, em, nI⟩
   simp only at em; replace em := em.symm; subst em
   obtain ⟨lp, nr, nh, lH⟩ := FAM.take (if (if (hv.length : Int) < N - 2 then (hv.length : Int) else N - 2) > (0 : Int) then (if (hv.length : Int) < N - 2 then (hv.length : Int) else N - 2) else (0 : Int)).toNat Z
   have hV := HS.open Y (i := 5) rfl (List.Perm.of_eq nh)
   have hV : HS _ _ _ [_, _, _, _, _, lp, _, _, nr] _ := hV
   have pS := FAM.len lH
   refine wTo 1 9 [] 184 184 [] [(184, (.pointer (some ⟨b9, 2, none⟩)))] rfl fun _ => ?_
   refine aL (aE (q := 3) hV rfl rfl rfl rfl rfl rfl rfl rfl rfl) rfl ?_
   rintro _ qZ _ ⟨(ob : HS _ _ _ [_, _, _, [(b9, .cells [(iI c.params), (iI c.regs), (.slice lZ (hv.take (if (if (hv.length : Int) < N - 2 then (hv.length : Int) else N - 2) > (0 : Int) then (if (hv.length : Int) < N - 2 then (hv.length : Int) else N - 2) else (0 : Int)).toNat).length mQ)] none false)], _, _, _, _, _] _), _⟩
   refine ae 0 rfl ?_
   exact ax _ _ ⟨hv.take (if (if (hv.length : Int) < N - 2 then (hv.length : Int) else N - 2) > (0 : Int) then (if (hv.length : Int) < N - 2 then (hv.length : Int) else N - 2) else (0 : Int)).toNat, lv.take (if (if (hv.length : Int) < N - 2 then (hv.length : Int) else N - 2) > (0 : Int) then (if (hv.length : Int) < N - 2 then (hv.length : Int) else N - 2) else (0 : Int)).toNat, c.params, c.regs, 0, 0, 0, 0, 0, ([] : List Int), T, lZ, mQ, none, 0, lp, _, fR, (HS.sub ob (a05 _ _)), nI, (SR.nil : SR a3 (.slice none 0 0) ([] : List Int)), lH, (agC rfl (agC rfl agN)), (by first | omega | exact ⟨by omega, by omega⟩), (by first | omega | (simp; omega)), (by exact fun m hm => by first | exact da (J m hm) | exact da (fun y hy => J m hm y (a0d hy)) | exact aS (J m hm) (a0l (aQ (aG (J m hm)))) | exact aS (J m hm) (bm (aQ (aG (J m hm)))))⟩
  have kd := hh
  try simp only [BS] at kd
  exact ax _ _ ⟨hv, lv, c.params, c.regs, 0, 0, 0, 0, 0, ([] : List Int), T, z, A, none, 0, av, _, fR, Y, E, (SR.nil : SR a3 (.slice none 0 0) ([] : List Int)), Z, (agC rfl (agC rfl agN)), (by first | omega | exact ⟨by omega, by omega⟩), (by first | omega | (simp; omega)), (by exact fun m hm => by first | exact da (J m hm) | exact da (fun y hy => J m hm y (a0d hy)) | exact aS (J m hm) (a0l (aQ (aG (J m hm)))) | exact aS (J m hm) (bm (aQ (aG (J m hm)))))⟩
 skip
 rintro q5 qI ⟨a6, dt, pq, rq, l1, l2, l3, l4, l5, bva, bl, al, an, bb, bk, co, qq, nx, lV, b7, og, f6, lG, j0, j1, j2⟩
 refine au _ lG (fun _ => ?_)
 clear lG
 have oE := FAM.len f6
 refine ah 3 rfl ?_
 refine aa ?_
 let m8 : Value := (.agg ⟨[(iI pq), (iI rq), (.slice al a6.length an)]⟩)
 refine wUo 1 0 [(0, .o m8)] 185 185 [] [(185, m8)] (qn 24 0 3 (HS.hc lV (i := 3) rfl) rfl rfl rfl rfl) rfl fun _ => ?_
 refine aL (aE (q := 1) lV rfl rfl rfl rfl rfl rfl rfl rfl rfl) rfl ?_
 rintro _ q0 _ ⟨(oc : HS _ _ _ [_, [(b3, .cells [(iI pq), (iI rq), (.slice al a6.length an)] none false)], _, [(b9, .cells [(iI pq), (iI rq), (.slice al a6.length an)] none false)], bl, co, _, [(ar, .cells [(iI l1), (iI l2), (iI l3), (iI l4), (iI l5), (.slice bb bva.length bk)] none false)]] _), _⟩
 refine ae 1 rfl ?_
 obtain ⟨qs, lu, hX, nz⟩ := SF.freeze f6 oc (q := 5) rfl
 have hX : HS _ _ _ [_, _, _, _, _, [], _, _] _ := hX
 replace b7 := b7.mono lu
 obtain ⟨qt, lw, f1, nM, qd⟩ := OS.frz b7 hX (i := 4) rfl
 have f1 : HS _ _ _ [_, _, _, _, [], _, _, _] _ := f1
 have lS := blkH_rows nM (by omega) (fun i hi => SR.mono lw (nz i hi))
 have oe := SR.len' lS
 have mI := SR.norm lS
 refine ak ⟨.inr rfl, _, (rC rfl (ldVN rfl rfl (HS.hc f1 (i := 1) rfl) rfl) rN), (⟨pq, rq, (blkZ a6 dt)⟩ : VFnT), al, an, _, (fT (fT (fT (fT (fT (f2) dk) dl) nx) lu) lw), (HS.forget f1), (by simp only [oe]; rfl), (by first | omega | (dsimp only; omega)), (by first | omega | (dsimp only; omega)), mI, (by exact a0b blkZ_len j1), (by exact fun m hm => blkZ_ok (j2 m hm))⟩
end Go.Proofs.YtknafdcgpaejlaaDoor.m9
