/-
  The generator that changes one detail of a function: what it makes is some function of bounded size. No condition but bounds on lengths.
-/
import Derived.Test.YtlabedbmgmfbaaaDoorZM6
import Derived.Test.YtlabedbmgmfbaaaDoorZRD
noncomputable section
namespace Go.Proofs.YtlabedbmgmfbaaaDoor.m9
open Go.R
set_option maxRecDepth 10000
set_option linter.unusedVariables false
theorem ql {H : Heap} {b o : Nat} {cs : List Value} {w : Value} (t : TypeId) (i : Nat) (hc : HC H.get b o cs) (ha : aggOf Tryd.prog t = some false) (hv : cs[i]? = some w) : LDv Tryd.prog H t (.pointer (some ⟨b, o + i, none⟩)) w := ld1 hc ha hv
theorem qn {H : Heap} {b o : Nat} {cs l : List Value} (t : TypeId) (i n : Nat) (hc : HC H.get b o cs) (ha : aggOf Tryd.prog t = some true) (hs : szOf Tryd.prog t = some n) (hn : Nat.ble (i + n) cs.length = true) (hl : takeL (dropL cs i) n = l) : LDv Tryd.prog H t (.pointer (some ⟨b, o + i, none⟩)) (.agg ⟨l⟩) := ldN hc ha hs hn hl
open m1 m2 m3 m4 m5 m6
structure BlkH where
  h : Hd
  fin : Int
  reg : Int
  tgt : Int
  els : Int
  deriving Inhabited
instance : Rp BlkH where
  sz := 5
  rep F cs x := cs = [.slice x.h.a x.h.n x.h.k, .int .i64 x.fin, .int .i64 x.reg, .int .i64 x.tgt, .int .i64 x.els] ∧ in64 x.fin ∧ in64 x.reg ∧ in64 x.tgt ∧ in64 x.els
  len := by rintro F cs x ⟨rfl, _⟩; rfl
  one := by rintro F cs x ⟨rfl, _⟩; rfl
  mono := by intro F F' cs x _ h; exact h
theorem BlkH.vw {F : Fz} {get : Nat → Option AObj} {v : Value} {cf : Nat → List Value} {j : Nat} {l : List BlkH} (h : VW F get v l cf j) (hj : j < l.length) : HC get (sB v) (sO v + j * Rp.sz BlkH) [.slice (l.getD j default).h.a (l.getD j default).h.n (l.getD j default).h.k, .int .i64 (l.getD j default).fin, .int .i64 (l.getD j default).reg, .int .i64 (l.getD j default).tgt, .int .i64 (l.getD j default).els] := by
  obtain ⟨⟨h1, _⟩, h2⟩ := h.1 default hj
  rw [show cf j = _ from h1] at h2; exact h2
theorem BlkH.fx {F : Fz} {get : Nat → Option AObj} {v : Value} {cf : Nat → List Value} {j : Nat} {l : List BlkH} (h : VW F get v l cf j) : in64 (l.getD j default).fin ∧ in64 (l.getD j default).reg ∧ in64 (l.getD j default).tgt ∧ in64 (l.getD j default).els := by
  rcases Nat.lt_or_ge j l.length with hj | hj
  · obtain ⟨⟨g1, h0, h1, h2, h3⟩, _⟩ := h.1 default hj
    exact ⟨h0, h1, h2, h3⟩
  · rw [getD_out hj]; exact ⟨by decide, by decide, by decide, by decide⟩
instance : HasHd BlkH := ⟨fun h => h.h⟩
def blkZ (hs : List BlkH) (ls : List (List VInT)) : List BlkT := List.zipWith (fun h l => ⟨l, h.fin, h.reg, h.tgt, h.els⟩) hs ls
theorem blkH_rows {F : Fz} {v : Value} {hs : List BlkH} {ls : List (List VInT)} (h : SR F v hs) (hl : hs.length ≤ ls.length) (k : ∀ i, i < ls.length → SR F (HasHd.hd (hs.getD i default)).v (ls.getD i [])) : SR F v (blkZ hs ls) := by
  refine SR.conv (α := BlkH) (β := BlkT) rfl h (by unfold blkZ; rw [List.length_zipWith]; omega) F.le_refl fun i x y hx hy c hc => ?_
  have hi := (List.getElem?_eq_some_iff.1 hx).1
  have k1 := k i (by omega)
  have e1 : hs.getD i default = x := by rw [List.getD_eq_getElem?_getD, hx]; rfl
  have e3 : ls[i]? = some (ls.getD i []) := getD_at (by omega)
  rw [e1] at k1
  have hn := SR.n (h := x.h) k1
  unfold blkZ at hy
  rw [List.getElem?_zipWith, hx, e3] at hy
  obtain rfl := (Option.some.inj hy)
  obtain ⟨rfl, g1, g2, g3, g4⟩ := hc
  exact ⟨x.h.a, x.h.k, by rw [← hn], g1, g2, g3, g4, by rw [← hn]; exact k1⟩

def okI (m : Nat) (y : List VInT) : Prop := y.length ≤ 1000 ∧ ∀ z ∈ y, z.args.length ≤ m
theorem ok_snoc {m : Nat} {l : List (List VInT)} {x : List VInT} (h : ∀ y ∈ l, okI m y) (hx : okI m x) : ∀ y ∈ l ++ [x], okI m y := fun y hy => by
  rcases List.mem_append.1 hy with hy | hy
  · exact h y hy
  · rw [List.mem_singleton] at hy; rw [hy]; exact hx
theorem ok_getD {m i : Nat} {l : List (List VInT)} (h : ∀ y ∈ l, okI m y) : okI m (l.getD i default) := by
  rw [List.getD_eq_getElem?_getD]
  rcases hi : l[i]? with _ | y
  · exact ⟨Nat.zero_le _, fun z hz => by cases hz⟩
  · exact h y (List.mem_of_getElem? hi)
theorem ok_arg {m i : Nat} {y : List VInT} (h : okI m y) : (y.getD i default).args.length ≤ m := by
  rw [List.getD_eq_getElem?_getD]
  rcases hi : y[i]? with _ | z
  · exact Nat.zero_le _
  · exact h.2 z (List.mem_of_getElem? hi)
theorem ok_7 {m : Nat} {l : List (List VInT)} (h : ∀ y ∈ l, okI m y) : ∀ y ∈ l, okI (m + 1) y := fun y hy => ⟨(h y hy).1, fun z hz => Nat.le_succ_of_le ((h y hy).2 z hz)⟩
theorem ok_set {m ii i : Nat} {l : List (List VInT)} {z : VInT} (h : ∀ y ∈ l, okI m y) (hz : z.args.length ≤ m + 1) : ∀ y ∈ l.set ii ((l.getD ii default).set i z), okI (m + 1) y := fun y hy => by
  rcases List.mem_or_eq_of_mem_set hy with hy | hy
  · exact ok_7 h y hy
  · subst hy
    have h1 := ok_getD (i := ii) h
    refine ⟨by rw [List.length_set]; exact h1.1, fun w hw => ?_⟩
    rcases List.mem_or_eq_of_mem_set hw with hw | hw
    · exact Nat.le_succ_of_le (h1.2 w hw)
    · subst hw; exact hz
theorem ok_more {m : Nat} {l : List Int} {n : Int} (h : l.length ≤ m) : (l ++ ([n] : List Int)).length ≤ m + 1 := by simp; omega
theorem blkZ_ok {m : Nat} {hs : List BlkH} {ls : List (List VInT)} (h : ∀ y ∈ ls, okI m y) (j : Nat) : okI m ((blkZ hs ls).getD j default).ins := by
  unfold blkZ
  rw [List.getD_eq_getElem?_getD, List.getElem?_zipWith]
  cases hs[j]? with
  | none => exact ⟨Nat.zero_le _, fun z hz => by cases hz⟩
  | some x =>
    cases hl : ls[j]? with
    | none => exact ⟨Nat.zero_le _, fun z hz => by cases hz⟩
    | some y => exact h y (List.mem_of_getElem? hl)
theorem blkZ_len {hs : List BlkH} {ls : List (List VInT)} : (blkZ hs ls).length ≤ hs.length := by unfold blkZ; rw [List.length_zipWith]; omega

set_option maxHeartbeats 2000000 in
theorem mut_c (ex : FuncId) {ac_2 : Option Addr} {kc_2 : Nat} (c : VFnT) (how : Int) (at_ : Int) {F : Fz} {H : Heap} {R : List Fp} (hs : HS (.of H []) F H [] R) (hc_0 : in64 c.params) (hc_1 : in64 c.regs) (hc_2 : SR F (.slice ac_2 c.blocks.length kc_2) c.blocks) (hhow : in64 how) (hat_ : in64 at_) (hT : TB 37 tabC F) (hb : 1 ≤ c.blocks.length ∧ c.blocks.length ≤ 1000) (hi : ∀ j, okI 7 (c.blocks.getD j default).ins) : C Tryd.prog 1 (KT 60 ex 37 tabC) 18 [(.agg ⟨[(.int .i64 c.params), (.int .i64 c.regs), (.slice ac_2 c.blocks.length kc_2)]⟩), (.int .i64 how), (.int .i64 at_)] H fun v H' => ∃ (x : VFnT) (ax_2 : Option Addr) (kx_2 : Nat) (F' : Fz), Fz.le F F' ∧ HS (.of H []) F' H' [] R ∧ v = .agg ⟨[.int .i64 x.params, .int .i64 x.regs, .slice ax_2 x.blocks.length kx_2]⟩ ∧ in64 x.params ∧ in64 x.regs ∧ SR F' (.slice ax_2 x.blocks.length kx_2) x.blocks ∧ (x.blocks.length ≤ 1000) ∧ (∀ m, (∀ j, okI m (c.blocks.getD j default).ins) → ∀ j, okI (m + 1) (x.blocks.getD j default).ins) := by
  refine c_enter Tryd.func18 rfl rfl ?_
  refine wk_foc 1 rfl ?_
  refine wk_region ?_
  refine wo_rs (rs_box hs rfl rfl) rfl rfl ?_
  rintro _ H2 _ ⟨b1, rfl, hs2, _⟩
  have hs2 : HS _ _ _ [[(b1, .cells [(.int .i64 c.params), (.int .i64 c.regs), (.slice ac_2 c.blocks.length kc_2)] none false)]] _ := hs2
  refine wo_rs (rs_new hs2 rfl) rfl rfl ?_
  rintro _ H4 _ ⟨b3, rfl, hs4, _⟩
  have hs4 : HS _ _ _ [_, [(b3, .cells [(.int .i64 0), (.int .i64 0), (.slice none 0 0)] none false)]] _ := hs4
  refine wo_end 2 rfl ?_
  refine wk_region ?_
  refine wro 2 0 [] 15 16 [] [(16, (.agg ⟨[(.int .i64 how)]⟩))] trivial (by kernel_rfl) rfl fun gg5 => ?_
  refine wo_rs (rs_box hs4 rfl rfl) rfl rfl ?_
  rintro _ H7 _ ⟨b6, rfl, hs7, _⟩
  have hs7 : HS _ _ _ [_, _, [(b6, .cells [(.int .i64 how)] none false)]] _ := hs7
  refine wa (.pointer (some ⟨b6, 0, none⟩)) rfl rfl rfl ?_
  refine wo_end 2 rfl ?_
  refine wk_region ?_
  refine wro 5 0 [(1, .o (.int .i64 c.params)), (3, .o (.int .i64 c.regs))] 18 22 [] [(22, (.agg ⟨[(.int .i64 c.params), (.int .i64 c.regs), (.slice none 0 0)]⟩))] (vA (ql 3 0 (HS.hc hs7 (i := 0) rfl) rfl rfl) (vA (ql 3 1 (HS.hc hs7 (i := 0) rfl) rfl rfl) trivial)) (by kernel_rfl) rfl fun gg8 => ?_
  refine wo_rs (rs_new hs7 rfl) rfl rfl ?_
  rintro _ H10 _ ⟨b9, rfl, hs10, _⟩
  have hs10 : HS _ _ _ [_, _, _, [(b9, .cells [(.int .i64 0), (.int .i64 0), (.slice none 0 0)] none false)]] _ := hs10
  refine wo_rk (rs_rec (q := 3) hs10 rfl rfl rfl rfl rfl rfl rfl rfl rfl) rfl ?_
  rintro _ H11 _ ⟨hs11, _⟩
  have hs11 : HS _ _ _ [_, _, _, [(b9, .cells [(.int .i64 c.params), (.int .i64 c.regs), (.slice none 0 0)] none false)]] _ := hs11
  refine wo_end 3 rfl ?_
  refine wr 2 [] 1 0 [9] [(9, (.int .i64 0))] trivial (by kernel_rfl) rfl fun gg12 => ?_
  have hs13 := HS.snoc hs11
  have hs13 : HS _ _ _ [_, _, _, _, []] _ := hs13
  have hs14 := HS.snoc hs13
  have hs14 : HS _ _ _ [_, _, _, _, _, []] _ := hs14
  have hf14 : SF F ([] : List BlkH) ([] : List (List VInT)) [] := rfl
  have fl14 := FAM.len hf14
  refine wk_loop_inv (fun (mm : Nat) f H' => ∃ (hv : List BlkH) (lv : List (List VInT)) (b : Nat) (lrp15_3_2 : Fp) (lra15_3_2 : Option Addr) (lrk15_3_2 : Nat) (lq15_4 : Fp) (F' : Fz), Fz.le F F' ∧ HS (Base.of H []) F' H' [[(b1, .cells [(.int .i64 c.params), (.int .i64 c.regs), (.slice ac_2 c.blocks.length kc_2)] none false)], [(b3, .cells [(.int .i64 0), (.int .i64 0), (.slice none 0 0)] none false)], [(b6, .cells [(.int .i64 how)] none false)], [(b9, .cells [(.int .i64 c.params), (.int .i64 c.regs), (.slice lra15_3_2 hv.length lrk15_3_2)] none false)], lrp15_3_2, lq15_4] R ∧ OS F' (.slice lra15_3_2 hv.length lrk15_3_2) hv lrp15_3_2 ∧ SF F' hv lv lq15_4 ∧ agrees f [(2, (.int .i64 at_)), (3, (.pointer (some ⟨b1, 0, none⟩))), (6, (.pointer (some ⟨b3, 0, none⟩))), (7, (.pointer (some ⟨b6, 0, none⟩))), (8, (.pointer (some ⟨b9, 0, none⟩))), (9, (.int .i64 (b : Int)))] ∧ mm = c.blocks.length - b ∧ (hv.length = b) ∧ (∀ y ∈ lv, okI 7 y) ∧ (b ≤ c.blocks.length) ∧ (∀ m, (∀ j, okI m (c.blocks.getD j default).ins) → ∀ y ∈ lv, okI m y)) _ ⟨([] : List BlkH), ([] : List (List VInT)), 0, [], none, 0, [], _, (Fz.le_refl _), hs14, (OS.nil : OS F (.slice none 0 0) ([] : List BlkH) []), hf14, (agC rfl (agC rfl (agC rfl (agC rfl (agC rfl (agC rfl agN)))))), rfl, (by rfl), (by simp), (by first | assumption | omega | (simp at *; omega)), (by simp)⟩ ?_
  rintro mm15 f15 H15 ⟨hv, lv, b, lrp15_3_2, lra15_3_2, lrk15_3_2, lq15_4, F15, hF15, hs15, lrh15_3_2, lf15_4, hf15, rfl, e1, e2, e3, e4⟩ ih15
  refine wk_canon _ hf15 (fun gg15 => ?_)
  clear hf15
  replace hT := hT.mono hF15
  replace hc_2 := hc_2.mono hF15
  have flf15_4 := FAM.len lf15_4
  have hib := (hi b).1
  refine wk_foc 2 rfl ?_
  refine wr 1 [(2, .o (.slice ac_2 c.blocks.length kc_2))] 23 27 [] [(27, (.bool (decide ((b : Int) < (c.blocks.length : Int)))))] (vA (ql 22 2 (HS.hc hs15 (i := 0) rfl) rfl rfl) trivial) (by kernel_rfl) rfl fun gg16 => ?_
  refine wk_if 4 5 (v := (decide ((b : Int) < (c.blocks.length : Int)))) rfl rfl rfl rfl (fun c17b => ?_) (fun c17b => ?_)
  · have c17 := c17b
    try simp only [BS] at c17
    refine wk_region ?_
    obtain ⟨cf18, hv18⟩ := Sv.view (SR.sv hc_2 hs15)
    obtain ⟨g19_1, g19_2, g19_3, g19_4, s19_0⟩ := BlkT.fx (hv18 b)
    refine wro 5 0 [(1, .o (.slice ac_2 c.blocks.length kc_2)), (4, .o (.agg ⟨[(.slice (cA (cf18 b) 0) ((c.blocks.getD b default).ins).length (cK (cf18 b) 0)), (.int .i64 ((c.blocks.getD b default).fin)), (.int .i64 ((c.blocks.getD b default).reg)), (.int .i64 ((c.blocks.getD b default).tgt)), (.int .i64 ((c.blocks.getD b default).els))]⟩))] 30 34 [] [(34, (.agg ⟨[(.slice (cA (cf18 b) 0) ((c.blocks.getD b default).ins).length (cK (cf18 b) 0)), (.int .i64 ((c.blocks.getD b default).fin)), (.int .i64 ((c.blocks.getD b default).reg)), (.int .i64 ((c.blocks.getD b default).tgt)), (.int .i64 ((c.blocks.getD b default).els))]⟩))] (vA (ql 22 2 (HS.hc hs15 (i := 0) rfl) rfl rfl) (vA (Sv.ix (j := (b : Int)) (SR.sv hc_2 hs15) (by first | omega | (dsimp only; omega)) (by first | omega | (dsimp only; omega))) (vA (qn 42 0 5 (BlkT.vw (hv18 b) (by first | omega | (dsimp only; omega))) rfl rfl rfl rfl) trivial))) (by kernel_rfl) rfl fun gg20 => ?_
    refine wo_rs (rs_new hs15 rfl) rfl rfl ?_
    rintro _ H22 _ ⟨b21, rfl, hs22, _⟩
    have hs22 : HS _ _ _ [_, _, _, [(b9, .cells [(.int .i64 c.params), (.int .i64 c.regs), (.slice lra15_3_2 hv.length lrk15_3_2)] none false)], lrp15_3_2, lq15_4, [(b21, .cells [(.slice none 0 0), (.int .i64 0), (.int .i64 0), (.int .i64 0), (.int .i64 0)] none false)]] _ := hs22
    refine wo_rk (rs_rec (q := 6) hs22 rfl rfl rfl rfl rfl rfl rfl rfl rfl) rfl ?_
    rintro _ H23 _ ⟨hs23, _⟩
    have hs23 : HS _ _ _ [_, _, _, _, _, _, [(b21, .cells [(.slice (cA (cf18 b) 0) ((c.blocks.getD b default).ins).length (cK (cf18 b) 0)), (.int .i64 ((c.blocks.getD b default).fin)), (.int .i64 ((c.blocks.getD b default).reg)), (.int .i64 ((c.blocks.getD b default).tgt)), (.int .i64 ((c.blocks.getD b default).els))] none false)]] _ := hs23
    refine wo_end 2 rfl ?_
    refine wk_region ?_
    refine wro 2 0 [(1, .o (.slice (cA (cf18 b) 0) ((c.blocks.getD b default).ins).length (cK (cf18 b) 0)))] 35 36 [] [(36, (.slice (cA (cf18 b) 0) ((c.blocks.getD b default).ins).length (cK (cf18 b) 0)))] (vA (ql 40 0 (HS.hc hs23 (i := 6) rfl) rfl rfl) trivial) (by kernel_rfl) rfl fun gg24 => ?_
    have hs25 := HS.snoc hs23
    have hs25 : HS _ _ _ [_, _, _, _, _, _, _, []] _ := hs25
    refine wo_rs (rs_app (α := VInT) (q := 7) (OS.nil : OS F15 (.slice none 0 0) ([] : List VInT) []) hs25 rfl rfl rfl (SR.sv s19_0 hs25) rfl rfl rfl rfl rfl rfl rfl (by first | omega | (simp only [List.length_nil]; first | omega | (have hq := ok_arg (i := kk) (ok_getD (i := ii) e2); omega)))) rfl rfl ?_
    rintro _ H27 p26 ⟨a26, k26, rfl, ho26, hs27, _⟩
    have hs27 : HS _ _ _ [_, _, _, _, _, _, _, p26] _ := hs27
    have ho26 : OS F15 (.slice a26 ((c.blocks.getD b default).ins).length k26) ((c.blocks.getD b default).ins) p26 := ho26
    refine wro 1 3 [] 38 38 [] [(38, (.pointer (some ⟨b21, 0, none⟩)))] trivial (by kernel_rfl) rfl fun gg28 => ?_
    refine wo_rk (rs_rec (q := 6) hs27 rfl rfl rfl rfl rfl rfl rfl rfl rfl) rfl ?_
    rintro _ H29 _ ⟨hs29, _⟩
    have hs29 : HS _ _ _ [_, _, _, _, _, _, [(b21, .cells [(.slice a26 ((c.blocks.getD b default).ins).length k26), (.int .i64 ((c.blocks.getD b default).fin)), (.int .i64 ((c.blocks.getD b default).reg)), (.int .i64 ((c.blocks.getD b default).tgt)), (.int .i64 ((c.blocks.getD b default).els))] none false)], _] _ := hs29
    refine wo_end 1 rfl ?_
    refine wk_region ?_
    refine wro 3 0 [(1, .o (.slice lra15_3_2 hv.length lrk15_3_2)), (2, .o (.agg ⟨[(.slice a26 ((c.blocks.getD b default).ins).length k26), (.int .i64 ((c.blocks.getD b default).fin)), (.int .i64 ((c.blocks.getD b default).reg)), (.int .i64 ((c.blocks.getD b default).tgt)), (.int .i64 ((c.blocks.getD b default).els))]⟩))] 39 41 [] [(40, (.slice lra15_3_2 hv.length lrk15_3_2)), (41, (.agg ⟨[(.slice a26 ((c.blocks.getD b default).ins).length k26), (.int .i64 ((c.blocks.getD b default).fin)), (.int .i64 ((c.blocks.getD b default).reg)), (.int .i64 ((c.blocks.getD b default).tgt)), (.int .i64 ((c.blocks.getD b default).els))]⟩))] (vA (ql 22 2 (HS.hc hs29 (i := 3) rfl) rfl rfl) (vA (qn 42 0 5 (HS.hc hs29 (i := 6) rfl) rfl rfl rfl rfl) trivial)) (by kernel_rfl) rfl fun gg30 => ?_
    refine wo_rs (rs_lit (α := BlkH) (ps := [(0, (.agg ⟨[(.slice a26 ((c.blocks.getD b default).ins).length k26), (.int .i64 ((c.blocks.getD b default).fin)), (.int .i64 ((c.blocks.getD b default).reg)), (.int .i64 ((c.blocks.getD b default).tgt)), (.int .i64 ((c.blocks.getD b default).els))]⟩))]) (cells := [(.slice a26 ((c.blocks.getD b default).ins).length k26), (.int .i64 ((c.blocks.getD b default).fin)), (.int .i64 ((c.blocks.getD b default).reg)), (.int .i64 ((c.blocks.getD b default).tgt)), (.int .i64 ((c.blocks.getD b default).els))]) ([(⟨(⟨a26, ((c.blocks.getD b default).ins).length, k26⟩ : Hd), (c.blocks.getD b default).fin, (c.blocks.getD b default).reg, (c.blocks.getD b default).tgt, (c.blocks.getD b default).els⟩ : BlkH)] : List BlkH) hs29 rfl rfl rfl (by kernel_rfl) ⟨[(.slice a26 ((c.blocks.getD b default).ins).length k26), (.int .i64 ((c.blocks.getD b default).fin)), (.int .i64 ((c.blocks.getD b default).reg)), (.int .i64 ((c.blocks.getD b default).tgt)), (.int .i64 ((c.blocks.getD b default).els))], [], rfl, ⟨rfl, by first | omega | (dsimp only; omega), by first | omega | (dsimp only; omega), by first | omega | (dsimp only; omega), by first | omega | (dsimp only; omega)⟩, rfl⟩ rfl) rfl rfl ?_
    rintro _ H32 p31 ⟨a31, k31, rfl, ho31, hs32, _⟩
    have hs32 : HS _ _ _ [_, _, _, _, _, _, _, _, p31] _ := hs32
    refine wo_rs (rs_app (α := BlkH) (q := 4) lrh15_3_2 hs32 rfl rfl rfl (OS.sv ho31 hs32 (i := 8) rfl) rfl rfl rfl rfl rfl rfl rfl (by first | omega | (simp only [List.length_cons, List.length_nil]; first | omega | (have hq := ok_arg (i := kk) (ok_getD (i := ii) e2); omega)))) rfl rfl ?_
    rintro _ H34 p33 ⟨a33, k33, rfl, ho33, hs34, _⟩
    have hs34 : HS _ _ _ [_, _, _, _, p33, _, _, _, _] _ := hs34
    obtain ⟨fq35, hs35, hf35⟩ := SF.add (⟨(⟨a26, ((c.blocks.getD b default).ins).length, k26⟩ : Hd), (c.blocks.getD b default).fin, (c.blocks.getD b default).reg, (c.blocks.getD b default).tgt, (c.blocks.getD b default).els⟩ : BlkH) lf15_4 hs34 (q := 5) (m := 7) (by decide) rfl rfl ho26
    have hs35 : HS _ _ _ [_, _, _, _, _, fq35, _, [], _] _ := hs35
    have hf35 : SF F15 (hv ++ ([(⟨(⟨a26, ((c.blocks.getD b default).ins).length, k26⟩ : Hd), (c.blocks.getD b default).fin, (c.blocks.getD b default).reg, (c.blocks.getD b default).tgt, (c.blocks.getD b default).els⟩ : BlkH)] : List BlkH)) (lv ++ [((c.blocks.getD b default).ins)]) fq35 := hf35
    have fl35 := FAM.len hf35
    refine wro 1 5 [] 44 44 [] [(44, (.pointer (some ⟨b9, 2, none⟩)))] trivial (by kernel_rfl) rfl fun gg36 => ?_
    refine wo_rk (rs_rec (q := 3) hs35 rfl rfl rfl rfl rfl rfl rfl rfl rfl) rfl ?_
    rintro _ H37 _ ⟨hs37, _⟩
    have hs37 : HS _ _ _ [_, _, _, [(b9, .cells [(.int .i64 c.params), (.int .i64 c.regs), (.slice a33 (hv ++ ([(⟨(⟨a26, ((c.blocks.getD b default).ins).length, k26⟩ : Hd), (c.blocks.getD b default).fin, (c.blocks.getD b default).reg, (c.blocks.getD b default).tgt, (c.blocks.getD b default).els⟩ : BlkH)] : List BlkH)).length k33)] none false)], _, _, _, _, _] _ := hs37
    refine wo_end 2 rfl ?_
    refine wr 1 [] 28 29 [9] [(9, (.int .i64 ((b : Int) + 1)))] (vA (vi (n := (b : Int) + 1) (by first | omega | (dsimp only; omega))) trivial) (by kernel_rfl) rfl fun gg38 => ?_
    refine ih15 _ _ _ ?_ ⟨hv ++ ([(⟨(⟨a26, ((c.blocks.getD b default).ins).length, k26⟩ : Hd), (c.blocks.getD b default).fin, (c.blocks.getD b default).reg, (c.blocks.getD b default).tgt, (c.blocks.getD b default).els⟩ : BlkH)] : List BlkH), lv ++ [((c.blocks.getD b default).ins)], b + 1, p33, a33, k33, fq35, _, (hF15), (HS.sub hs37 (List.sublist_append_left _ _)), ho33, hf35, (agC rfl (agC rfl (agC rfl (agC rfl (agC rfl (agC rfl agN)))))), rfl, (by simp; omega), (by exact ok_snoc e2 (hi b)), (by first | assumption | omega | (simp at *; omega)), (by exact fun m hm => ok_snoc (e4 m hm) (hm b))⟩
    omega
  · have c17 := c17b
    try simp only [BS] at c17
    have fq39 := pick_imp at_ (hv.length : Int)
    refine wrD 2 [(1, .o (.slice lra15_3_2 hv.length lrk15_3_2)), (4, .o (.slice lra15_3_2 hv.length lrk15_3_2)), (6, .o (.int .i64 (pickV at_ (hv.length : Int))))] 45 52 [11] [(11, (.pointer (some ⟨sB (.slice lra15_3_2 hv.length lrk15_3_2), sO (.slice lra15_3_2 hv.length lrk15_3_2) + ((pickV at_ (hv.length : Int)).toNat) * Rp.sz BlkH, none⟩)))] (vA (ql 22 2 (hc0 (HS.hc hs15 (i := 3) rfl)) rfl rfl) (vA (ql 22 2 (hc0 (HS.hc hs15 (i := 3) rfl)) rfl rfl) (vA (m1.pick_c_q ex at_ (hv.length : Int) { H15 with log := [] } (by first | omega | (dsimp only; omega))) (vA (Sv.ix (j := pickV at_ (hv.length : Int)) (OS.sv lrh15_3_2 hs15 (i := 4) rfl) (by first | omega | (dsimp only; omega)) (by first | omega | (dsimp only; omega))) trivial)))) rfl (by kernel_rfl) rfl fun gg40 => ?_
    have hii : (pickV at_ (hv.length : Int)).toNat < hv.length := by first | omega | (dsimp only; omega)
    generalize (pickV at_ (hv.length : Int)).toNat = ii at hii ⊢
    refine wr 3 [] 1 0 [12] [(12, (.pointer none))] trivial (by kernel_rfl) rfl fun gg41 => ?_
    obtain ⟨cf42, hv42⟩ := Sv.view (OS.sv lrh15_3_2 hs15 (i := 4) rfl)
    obtain ⟨g43_1, g43_2, g43_3, g43_4⟩ := BlkH.fx (hv42 ii)
    obtain ⟨fp44, fc44, hs44, ho44, fw44⟩ := SF.open lf15_4 hs15 (q := 5) (i := ii) rfl (by first | omega | (dsimp only; omega))
    have hs44 : HS _ _ _ [[(b1, .cells [(.int .i64 c.params), (.int .i64 c.regs), (.slice ac_2 c.blocks.length kc_2)] none false)], [(b3, .cells [(.int .i64 0), (.int .i64 0), (.slice none 0 0)] none false)], [(b6, .cells [(.int .i64 how)] none false)], [(b9, .cells [(.int .i64 c.params), (.int .i64 c.regs), (.slice lra15_3_2 hv.length lrk15_3_2)] none false)], lrp15_3_2, fp44, fc44] _ := hs44
    have ho44 : OS F15 (.slice (hv.getD ii default).h.a (hv.getD ii default).h.n (hv.getD ii default).h.k) (lv.getD ii default) fc44 := ho44
    have ln44 := OS.nlen ho44
    refine wr 1 [(3, .o (.slice (hv.getD ii default).h.a (hv.getD ii default).h.n (hv.getD ii default).h.k))] 53 58 [] [(58, (.bool (decide ((0 : Int) < ((hv.getD ii default).h.n : Int)))))] (vA (ql 40 0 (BlkH.vw (hv42 ii) (by first | omega | (dsimp only; omega))) rfl rfl) trivial) (by kernel_rfl) rfl fun gg45 => ?_
    refine wk_if 0 0 (v := (decide ((0 : Int) < ((hv.getD ii default).h.n : Int)))) rfl rfl rfl rfl (fun c46b => ?_) (fun c46b => ?_)
    · have c46 := c46b
      try simp only [BS] at c46
      have hle := (ok_getD (i := ii) e2).1
      obtain ⟨cf47, hv47⟩ := Sv.view (OS.sv lrh15_3_2 hs44 (i := 4) rfl)
      obtain ⟨g48_1, g48_2, g48_3, g48_4⟩ := BlkH.fx (hv47 ii)
      have tq49 : in64 at_ → in64 (Int.tdiv at_ 7) := fun h => vq h (by decide)
      have fq50 := pick_imp (Int.tdiv at_ 7) ((hv.getD ii default).h.n : Int)
      refine wrD 2 [(3, .o (.slice (hv.getD ii default).h.a (hv.getD ii default).h.n (hv.getD ii default).h.k)), (9, .o (.slice (hv.getD ii default).h.a (hv.getD ii default).h.n (hv.getD ii default).h.k)), (11, .o (.int .i64 (pickV (Int.tdiv at_ 7) ((hv.getD ii default).h.n : Int))))] 59 71 [12] [(12, (.pointer (some ⟨sB (.slice (hv.getD ii default).h.a (hv.getD ii default).h.n (hv.getD ii default).h.k), sO (.slice (hv.getD ii default).h.a (hv.getD ii default).h.n (hv.getD ii default).h.k) + ((pickV (Int.tdiv at_ 7) ((hv.getD ii default).h.n : Int)).toNat) * Rp.sz VInT, none⟩)))] (vA (ql 40 0 (hc0 (BlkH.vw (hv47 ii) (by first | omega | (dsimp only; omega)))) rfl rfl) (vA (vA (show (7 : Int) ≠ 0 from by decide) (vq (a := at_) (b := 7) (by first | omega | (dsimp only; omega)) (by decide))) (vA (ql 40 0 (hc0 (BlkH.vw (hv47 ii) (by first | omega | (dsimp only; omega)))) rfl rfl) (vA (m1.pick_c_q ex (Int.tdiv at_ 7) ((hv.getD ii default).h.n : Int) { H15 with log := [] } (by first | omega | (dsimp only; omega))) (vA (Sv.ix (j := pickV (Int.tdiv at_ 7) ((hv.getD ii default).h.n : Int)) (OS.sv ho44 hs44 (i := 6) rfl) (by first | omega | (dsimp only; omega)) (by first | omega | (dsimp only; omega))) trivial))))) rfl (by kernel_rfl) rfl fun gg51 => ?_
      have hkk : (pickV (Int.tdiv at_ 7) ((hv.getD ii default).h.n : Int)).toNat < (lv.getD ii default).length := by first | omega | (dsimp only; omega)
      generalize (pickV (Int.tdiv at_ 7) ((hv.getD ii default).h.n : Int)).toNat = kk at hkk ⊢
      refine wk_region ?_
      refine wm (.pointer (some ⟨b6, 0, none⟩)) rfl rfl rfl ?_
      refine wo_call (ap_call rfl rfl rfl) rfl rfl (m4.next_c ex (⟨how⟩ : DigT) (40) (HS.callOwn hs44 (i := 2) rfl) (by first | omega | (dsimp only; omega)) (by first | omega | (dsimp only; omega)) hT (by first | omega | (dsimp only; omega))) ?_
      rintro _ H52 ⟨r52, dm52, F52, hF52, hs52, rfl, gm52_0, h52⟩
      replace hs52 := HS.backOwn hs44 (i := 2) rfl rfl (fun _ hb => hb) hs52
      have hs52 : HS _ _ _ [[(b1, .cells [(.int .i64 c.params), (.int .i64 c.regs), (.slice ac_2 c.blocks.length kc_2)] none false)], [(b3, .cells [(.int .i64 0), (.int .i64 0), (.slice none 0 0)] none false)], [(b6, .cells [(.int .i64 dm52.n)] none false)], [(b9, .cells [(.int .i64 c.params), (.int .i64 c.regs), (.slice lra15_3_2 hv.length lrk15_3_2)] none false)], lrp15_3_2, fp44, fc44] _ := hs52
      replace hT := hT.mono hF52
      replace hc_2 := hc_2.mono hF52
      replace ho44 := ho44.mono hF52
      replace lrh15_3_2 := lrh15_3_2.mono hF52
      refine wro 2 2 [] 76 76 [13] [(13, (.int .i64 (r52 - 2)))] (vA (vi (n := r52 - 2) (by first | omega | (dsimp only; omega))) trivial) (by kernel_rfl) rfl fun gg53 => ?_
      refine wo_end 3 rfl ?_
      refine wk_region ?_
      refine wm (.pointer (some ⟨b6, 0, none⟩)) rfl rfl rfl ?_
      refine wo_call (ap_call rfl rfl rfl) rfl rfl (m4.next_c ex (⟨dm52.n⟩ : DigT) (14) (HS.callOwn hs52 (i := 2) rfl) (by first | omega | (dsimp only; omega)) (by first | omega | (dsimp only; omega)) hT (by first | omega | (dsimp only; omega))) ?_
      rintro _ H54 ⟨r54, dm54, F54, hF54, hs54, rfl, gm54_0, h54⟩
      replace hs54 := HS.backOwn hs52 (i := 2) rfl rfl (fun _ hb => hb) hs54
      have hs54 : HS _ _ _ [_, _, [(b6, .cells [(.int .i64 dm54.n)] none false)], _, _, _, _] _ := hs54
      replace hT := hT.mono hF54
      replace hc_2 := hc_2.mono hF54
      replace ho44 := ho44.mono hF54
      replace lrh15_3_2 := lrh15_3_2.mono hF54
      refine wa (.int .i64 r54) rfl rfl rfl ?_
      refine wo_end 3 rfl ?_
      refine wr 1 [] 79 81 [] [(79, (.bool (r54 == 0)))] trivial (by kernel_rfl) rfl fun gg55 => ?_
      refine wk_if 0 1 (v := (r54 == 0)) rfl rfl rfl rfl (fun c56b => ?_) (fun c56b => ?_)
      · have c56 := c56b
        try simp only [BS] at c56
        refine wk_region ?_
        refine wro 2 0 [] 82 83 [] [(82, (.int .i64 (r52 - 2))), (83, (.pointer (some ⟨b9, 0, none⟩)))] trivial (by kernel_rfl) rfl fun gg57 => ?_
        refine wo_rk (rs_rec (q := 3) hs54 rfl rfl rfl rfl rfl rfl rfl rfl rfl) rfl ?_
        rintro _ H58 _ ⟨hs58, _⟩
        have hs58 : HS _ _ _ [_, _, _, [(b9, .cells [(.int .i64 (r52 - 2)), (.int .i64 c.regs), (.slice lra15_3_2 hv.length lrk15_3_2)] none false)], _, _, _] _ := hs58
        refine wo_end 3 rfl ?_
        refine wk_region ?_
        refine wro 1 0 [(0, .o (.agg ⟨[(.int .i64 (r52 - 2)), (.int .i64 c.regs), (.slice lra15_3_2 hv.length lrk15_3_2)]⟩))] 185 185 [] [(185, (.agg ⟨[(.int .i64 (r52 - 2)), (.int .i64 c.regs), (.slice lra15_3_2 hv.length lrk15_3_2)]⟩))] (vA (qn 24 0 3 (HS.hc hs58 (i := 3) rfl) rfl rfl rfl rfl) trivial) (by kernel_rfl) rfl fun gg59 => ?_
        refine wo_rk (rs_rec (q := 1) hs58 rfl rfl rfl rfl rfl rfl rfl rfl rfl) rfl ?_
        rintro _ H60 _ ⟨hs60, _⟩
        have hs60 : HS _ _ _ [_, [(b3, .cells [(.int .i64 (r52 - 2)), (.int .i64 c.regs), (.slice lra15_3_2 hv.length lrk15_3_2)] none false)], _, _, _, _, _] _ := hs60
        refine wo_end 1 rfl ?_
        obtain ⟨fq61, hs61, hf61⟩ := SF.shut0 fw44 (Fz.le_trans (hF52) hF54) hs60 (q := 5) (m := 6) (by decide) rfl rfl ho44
        have hs61 : HS _ _ _ [_, _, _, _, _, fq61, []] _ := hs61
        have fl61 := FAM.len hf61
        obtain ⟨F62, hF62, hs62, ha62⟩ := SF.freeze hf61 hs61 (q := 5) rfl
        have hs62 : HS _ _ _ [_, _, _, _, _, [], _] _ := hs62
        replace hT := hT.mono hF62
        replace hc_2 := hc_2.mono hF62
        replace ho44 := ho44.mono hF62
        replace lrh15_3_2 := lrh15_3_2.mono hF62
        obtain ⟨F63, hF63, hs63, hr63, hp63⟩ := OS.frz lrh15_3_2 hs62 (i := 4) rfl
        have hs63 : HS _ _ _ [_, _, _, _, [], _, _] _ := hs63
        replace hT := hT.mono hF63
        replace hc_2 := hc_2.mono hF63
        replace ho44 := ho44.mono hF63
        have hq63 := blkH_rows hr63 (by omega) (fun i hi => SR.mono hF63 (ha62 i hi))
        have ln63 := SR.len' hq63
        have hq63N := SR.norm hq63
        refine wk_ret ⟨.inr rfl, _, (rC rfl (ldVN rfl rfl (HS.hc hs63 (i := 1) rfl) rfl) rN), (⟨r52 - 2, c.regs, (blkZ hv lv)⟩ : VFnT), lra15_3_2, lrk15_3_2, _, (Fz.le_trans (Fz.le_trans (Fz.le_trans (Fz.le_trans (hF15) hF52) hF54) hF62) hF63), (HS.forget hs63), (by simp only [ln63]; rfl), (by first | omega | (dsimp only; omega)), (by first | omega | (dsimp only; omega)), hq63N, (by exact Nat.le_trans blkZ_len (by first | omega | (simp; omega))), (by exact fun m hm => blkZ_ok (by first | exact ok_7 (e4 m hm) | exact ok_7 (fun y hy => e4 m hm y (List.mem_of_mem_take hy)) | exact ok_set (e4 m hm) (Nat.le_succ_of_le (ok_arg (ok_getD (e4 m hm)))) | exact ok_set (e4 m hm) (ok_more (ok_arg (ok_getD (e4 m hm))))))⟩
      · have c56 := c56b
        try simp only [BS] at c56
        refine wr 1 [] 84 86 [] [(84, (.bool (r54 == 1)))] trivial (by kernel_rfl) rfl fun gg64 => ?_
        refine wk_if 0 1 (v := (r54 == 1)) rfl rfl rfl rfl (fun c65b => ?_) (fun c65b => ?_)
        · have c65 := c65b
          try simp only [BS] at c65
          refine wk_region ?_
          refine wro 2 0 [] 87 88 [] [(87, (.int .i64 (r52 - 2))), (88, (.pointer (some ⟨b9, 1, none⟩)))] trivial (by kernel_rfl) rfl fun gg66 => ?_
          refine wo_rk (rs_rec (q := 3) hs54 rfl rfl rfl rfl rfl rfl rfl rfl rfl) rfl ?_
          rintro _ H67 _ ⟨hs67, _⟩
          have hs67 : HS _ _ _ [_, _, _, [(b9, .cells [(.int .i64 c.params), (.int .i64 (r52 - 2)), (.slice lra15_3_2 hv.length lrk15_3_2)] none false)], _, _, _] _ := hs67
          refine wo_end 3 rfl ?_
          refine wk_region ?_
          refine wro 1 0 [(0, .o (.agg ⟨[(.int .i64 c.params), (.int .i64 (r52 - 2)), (.slice lra15_3_2 hv.length lrk15_3_2)]⟩))] 185 185 [] [(185, (.agg ⟨[(.int .i64 c.params), (.int .i64 (r52 - 2)), (.slice lra15_3_2 hv.length lrk15_3_2)]⟩))] (vA (qn 24 0 3 (HS.hc hs67 (i := 3) rfl) rfl rfl rfl rfl) trivial) (by kernel_rfl) rfl fun gg68 => ?_
          refine wo_rk (rs_rec (q := 1) hs67 rfl rfl rfl rfl rfl rfl rfl rfl rfl) rfl ?_
          rintro _ H69 _ ⟨hs69, _⟩
          have hs69 : HS _ _ _ [_, [(b3, .cells [(.int .i64 c.params), (.int .i64 (r52 - 2)), (.slice lra15_3_2 hv.length lrk15_3_2)] none false)], _, _, _, _, _] _ := hs69
          refine wo_end 1 rfl ?_
          obtain ⟨fq70, hs70, hf70⟩ := SF.shut0 fw44 (Fz.le_trans (hF52) hF54) hs69 (q := 5) (m := 6) (by decide) rfl rfl ho44
          have hs70 : HS _ _ _ [_, _, _, _, _, fq70, []] _ := hs70
          have fl70 := FAM.len hf70
          obtain ⟨F71, hF71, hs71, ha71⟩ := SF.freeze hf70 hs70 (q := 5) rfl
          have hs71 : HS _ _ _ [_, _, _, _, _, [], _] _ := hs71
          replace hT := hT.mono hF71
          replace hc_2 := hc_2.mono hF71
          replace ho44 := ho44.mono hF71
          replace lrh15_3_2 := lrh15_3_2.mono hF71
          obtain ⟨F72, hF72, hs72, hr72, hp72⟩ := OS.frz lrh15_3_2 hs71 (i := 4) rfl
          have hs72 : HS _ _ _ [_, _, _, _, [], _, _] _ := hs72
          replace hT := hT.mono hF72
          replace hc_2 := hc_2.mono hF72
          replace ho44 := ho44.mono hF72
          have hq72 := blkH_rows hr72 (by omega) (fun i hi => SR.mono hF72 (ha71 i hi))
          have ln72 := SR.len' hq72
          have hq72N := SR.norm hq72
          refine wk_ret ⟨.inr rfl, _, (rC rfl (ldVN rfl rfl (HS.hc hs72 (i := 1) rfl) rfl) rN), (⟨c.params, r52 - 2, (blkZ hv lv)⟩ : VFnT), lra15_3_2, lrk15_3_2, _, (Fz.le_trans (Fz.le_trans (Fz.le_trans (Fz.le_trans (hF15) hF52) hF54) hF71) hF72), (HS.forget hs72), (by simp only [ln72]; rfl), (by first | omega | (dsimp only; omega)), (by first | omega | (dsimp only; omega)), hq72N, (by exact Nat.le_trans blkZ_len (by first | omega | (simp; omega))), (by exact fun m hm => blkZ_ok (by first | exact ok_7 (e4 m hm) | exact ok_7 (fun y hy => e4 m hm y (List.mem_of_mem_take hy)) | exact ok_set (e4 m hm) (Nat.le_succ_of_le (ok_arg (ok_getD (e4 m hm)))) | exact ok_set (e4 m hm) (ok_more (ok_arg (ok_getD (e4 m hm))))))⟩
        · have c65 := c65b
          try simp only [BS] at c65
          refine wr 1 [] 89 91 [] [(89, (.bool (r54 == 2)))] trivial (by kernel_rfl) rfl fun gg73 => ?_
          refine wk_if 0 1 (v := (r54 == 2)) rfl rfl rfl rfl (fun c74b => ?_) (fun c74b => ?_)
          · have c74 := c74b
            try simp only [BS] at c74
            refine wk_region ?_
            refine wro 4 0 [] 92 95 [] [(93, (.int .i64 (r52 - 2))), (95, (.pointer (some ⟨sB (.slice lra15_3_2 hv.length lrk15_3_2), sO (.slice lra15_3_2 hv.length lrk15_3_2) + ii * Rp.sz BlkH + 1, none⟩)))] trivial (by kernel_rfl) rfl fun gg75 => ?_
            obtain ⟨fq76, hs76, hf76⟩ := SF.shut0 fw44 (Fz.le_trans (hF52) hF54) hs54 (q := 5) (m := 6) (by decide) rfl rfl ho44
            have hs76 : HS _ _ _ [_, _, _, _, _, fq76, []] _ := hs76
            have fl76 := FAM.len hf76
            have hf77 := SF.put (⟨(hv.getD ii default).h, r52 - 2, (hv.getD ii default).reg, (hv.getD ii default).tgt, (hv.getD ii default).els⟩ : BlkH) hf76 (i := ii) rfl
            refine wo_rk (rs_st (α := BlkH) (j := ii) (off := 1) (q := 4) (⟨(hv.getD ii default).h, r52 - 2, (hv.getD ii default).reg, (hv.getD ii default).tgt, (hv.getD ii default).els⟩ : BlkH) lrh15_3_2 hs76 rfl rfl rfl rfl rfl rfl rfl rfl (getD_at (x := default) (by first | omega | (dsimp only; omega))) rfl (by rintro cs ⟨rfl, qg1, qg2, qg3, qg4⟩; exact ⟨Nat.le_of_ble_eq_true rfl, ⟨rfl, by first | omega | (dsimp only; omega), qg2, qg3, qg4⟩⟩)) rfl ?_
            rintro _ H80 p78 ⟨ho79, hs80, _⟩
            have hs80 : HS _ _ _ [_, _, _, _, p78, _, _] _ := hs80
            have hnp78 := OS.len' ho79
            refine wo_end 3 rfl ?_
            refine wk_region ?_
            refine wro 1 0 [(0, .o (.agg ⟨[(.int .i64 c.params), (.int .i64 c.regs), (.slice lra15_3_2 hv.length lrk15_3_2)]⟩))] 185 185 [] [(185, (.agg ⟨[(.int .i64 c.params), (.int .i64 c.regs), (.slice lra15_3_2 hv.length lrk15_3_2)]⟩))] (vA (qn 24 0 3 (HS.hc hs80 (i := 3) rfl) rfl rfl rfl rfl) trivial) (by kernel_rfl) rfl fun gg81 => ?_
            refine wo_rk (rs_rec (q := 1) hs80 rfl rfl rfl rfl rfl rfl rfl rfl rfl) rfl ?_
            rintro _ H82 _ ⟨hs82, _⟩
            have hs82 : HS _ _ _ [_, [(b3, .cells [(.int .i64 c.params), (.int .i64 c.regs), (.slice lra15_3_2 hv.length lrk15_3_2)] none false)], _, _, _, _, _] _ := hs82
            refine wo_end 1 rfl ?_
            obtain ⟨F83, hF83, hs83, ha83⟩ := SF.freeze hf77 hs82 (q := 5) rfl
            have hs83 : HS _ _ _ [_, _, _, _, _, [], _] _ := hs83
            replace hT := hT.mono hF83
            replace hc_2 := hc_2.mono hF83
            replace ho44 := ho44.mono hF83
            replace ho79 := ho79.mono hF83
            replace lrh15_3_2 := lrh15_3_2.mono hF83
            obtain ⟨F84, hF84, hs84, hr84, hp84⟩ := OS.frz ho79 hs83 (i := 4) rfl
            have hs84 : HS _ _ _ [_, _, _, _, [], _, _] _ := hs84
            replace hT := hT.mono hF84
            replace hc_2 := hc_2.mono hF84
            replace ho44 := ho44.mono hF84
            replace lrh15_3_2 := lrh15_3_2.mono hF84
            have hq84 := blkH_rows hr84 (by omega) (fun i hi => SR.mono hF84 (ha83 i hi))
            have ln84 := SR.len' hq84
            have hq84N := SR.norm hq84
            refine wk_ret ⟨.inr rfl, _, (rC rfl (ldVN rfl rfl (HS.hc hs84 (i := 1) rfl) rfl) rN), (⟨c.params, c.regs, (blkZ (hv.set ii (⟨(hv.getD ii default).h, r52 - 2, (hv.getD ii default).reg, (hv.getD ii default).tgt, (hv.getD ii default).els⟩ : BlkH)) lv)⟩ : VFnT), lra15_3_2, lrk15_3_2, _, (Fz.le_trans (Fz.le_trans (Fz.le_trans (Fz.le_trans (hF15) hF52) hF54) hF83) hF84), (HS.forget hs84), (by simp only [ln84]; rfl), (by first | omega | (dsimp only; omega)), (by first | omega | (dsimp only; omega)), hq84N, (by exact Nat.le_trans blkZ_len (by first | omega | (simp; omega))), (by exact fun m hm => blkZ_ok (by first | exact ok_7 (e4 m hm) | exact ok_7 (fun y hy => e4 m hm y (List.mem_of_mem_take hy)) | exact ok_set (e4 m hm) (Nat.le_succ_of_le (ok_arg (ok_getD (e4 m hm)))) | exact ok_set (e4 m hm) (ok_more (ok_arg (ok_getD (e4 m hm))))))⟩
          · have c74 := c74b
            try simp only [BS] at c74
            refine wr 1 [] 96 98 [] [(96, (.bool (r54 == 3)))] trivial (by kernel_rfl) rfl fun gg85 => ?_
            refine wk_if 0 1 (v := (r54 == 3)) rfl rfl rfl rfl (fun c86b => ?_) (fun c86b => ?_)
            · have c86 := c86b
              try simp only [BS] at c86
              refine wk_region ?_
              refine wro 4 0 [] 99 102 [] [(100, (.int .i64 (r52 - 2))), (102, (.pointer (some ⟨sB (.slice lra15_3_2 hv.length lrk15_3_2), sO (.slice lra15_3_2 hv.length lrk15_3_2) + ii * Rp.sz BlkH + 2, none⟩)))] trivial (by kernel_rfl) rfl fun gg87 => ?_
              obtain ⟨fq88, hs88, hf88⟩ := SF.shut0 fw44 (Fz.le_trans (hF52) hF54) hs54 (q := 5) (m := 6) (by decide) rfl rfl ho44
              have hs88 : HS _ _ _ [_, _, _, _, _, fq88, []] _ := hs88
              have fl88 := FAM.len hf88
              have hf89 := SF.put (⟨(hv.getD ii default).h, (hv.getD ii default).fin, r52 - 2, (hv.getD ii default).tgt, (hv.getD ii default).els⟩ : BlkH) hf88 (i := ii) rfl
              refine wo_rk (rs_st (α := BlkH) (j := ii) (off := 2) (q := 4) (⟨(hv.getD ii default).h, (hv.getD ii default).fin, r52 - 2, (hv.getD ii default).tgt, (hv.getD ii default).els⟩ : BlkH) lrh15_3_2 hs88 rfl rfl rfl rfl rfl rfl rfl rfl (getD_at (x := default) (by first | omega | (dsimp only; omega))) rfl (by rintro cs ⟨rfl, qg1, qg2, qg3, qg4⟩; exact ⟨Nat.le_of_ble_eq_true rfl, ⟨rfl, qg1, by first | omega | (dsimp only; omega), qg3, qg4⟩⟩)) rfl ?_
              rintro _ H92 p90 ⟨ho91, hs92, _⟩
              have hs92 : HS _ _ _ [_, _, _, _, p90, _, _] _ := hs92
              have hnp90 := OS.len' ho91
              refine wo_end 3 rfl ?_
              refine wk_region ?_
              refine wro 1 0 [(0, .o (.agg ⟨[(.int .i64 c.params), (.int .i64 c.regs), (.slice lra15_3_2 hv.length lrk15_3_2)]⟩))] 185 185 [] [(185, (.agg ⟨[(.int .i64 c.params), (.int .i64 c.regs), (.slice lra15_3_2 hv.length lrk15_3_2)]⟩))] (vA (qn 24 0 3 (HS.hc hs92 (i := 3) rfl) rfl rfl rfl rfl) trivial) (by kernel_rfl) rfl fun gg93 => ?_
              refine wo_rk (rs_rec (q := 1) hs92 rfl rfl rfl rfl rfl rfl rfl rfl rfl) rfl ?_
              rintro _ H94 _ ⟨hs94, _⟩
              have hs94 : HS _ _ _ [_, [(b3, .cells [(.int .i64 c.params), (.int .i64 c.regs), (.slice lra15_3_2 hv.length lrk15_3_2)] none false)], _, _, _, _, _] _ := hs94
              refine wo_end 1 rfl ?_
              obtain ⟨F95, hF95, hs95, ha95⟩ := SF.freeze hf89 hs94 (q := 5) rfl
              have hs95 : HS _ _ _ [_, _, _, _, _, [], _] _ := hs95
              replace hT := hT.mono hF95
              replace hc_2 := hc_2.mono hF95
              replace ho44 := ho44.mono hF95
              replace ho91 := ho91.mono hF95
              replace lrh15_3_2 := lrh15_3_2.mono hF95
              obtain ⟨F96, hF96, hs96, hr96, hp96⟩ := OS.frz ho91 hs95 (i := 4) rfl
              have hs96 : HS _ _ _ [_, _, _, _, [], _, _] _ := hs96
              replace hT := hT.mono hF96
              replace hc_2 := hc_2.mono hF96
              replace ho44 := ho44.mono hF96
              replace lrh15_3_2 := lrh15_3_2.mono hF96
              have hq96 := blkH_rows hr96 (by omega) (fun i hi => SR.mono hF96 (ha95 i hi))
              have ln96 := SR.len' hq96
              have hq96N := SR.norm hq96
              refine wk_ret ⟨.inr rfl, _, (rC rfl (ldVN rfl rfl (HS.hc hs96 (i := 1) rfl) rfl) rN), (⟨c.params, c.regs, (blkZ (hv.set ii (⟨(hv.getD ii default).h, (hv.getD ii default).fin, r52 - 2, (hv.getD ii default).tgt, (hv.getD ii default).els⟩ : BlkH)) lv)⟩ : VFnT), lra15_3_2, lrk15_3_2, _, (Fz.le_trans (Fz.le_trans (Fz.le_trans (Fz.le_trans (hF15) hF52) hF54) hF95) hF96), (HS.forget hs96), (by simp only [ln96]; rfl), (by first | omega | (dsimp only; omega)), (by first | omega | (dsimp only; omega)), hq96N, (by exact Nat.le_trans blkZ_len (by first | omega | (simp; omega))), (by exact fun m hm => blkZ_ok (by first | exact ok_7 (e4 m hm) | exact ok_7 (fun y hy => e4 m hm y (List.mem_of_mem_take hy)) | exact ok_set (e4 m hm) (Nat.le_succ_of_le (ok_arg (ok_getD (e4 m hm)))) | exact ok_set (e4 m hm) (ok_more (ok_arg (ok_getD (e4 m hm))))))⟩
            · have c86 := c86b
              try simp only [BS] at c86
              refine wr 1 [] 103 105 [] [(103, (.bool (r54 == 4)))] trivial (by kernel_rfl) rfl fun gg97 => ?_
              refine wk_if 0 1 (v := (r54 == 4)) rfl rfl rfl rfl (fun c98b => ?_) (fun c98b => ?_)
              · have c98 := c98b
                try simp only [BS] at c98
                refine wk_region ?_
                refine wro 4 0 [] 106 109 [] [(107, (.int .i64 (r52 - 2))), (109, (.pointer (some ⟨sB (.slice lra15_3_2 hv.length lrk15_3_2), sO (.slice lra15_3_2 hv.length lrk15_3_2) + ii * Rp.sz BlkH + 3, none⟩)))] trivial (by kernel_rfl) rfl fun gg99 => ?_
                obtain ⟨fq100, hs100, hf100⟩ := SF.shut0 fw44 (Fz.le_trans (hF52) hF54) hs54 (q := 5) (m := 6) (by decide) rfl rfl ho44
                have hs100 : HS _ _ _ [_, _, _, _, _, fq100, []] _ := hs100
                have fl100 := FAM.len hf100
                have hf101 := SF.put (⟨(hv.getD ii default).h, (hv.getD ii default).fin, (hv.getD ii default).reg, r52 - 2, (hv.getD ii default).els⟩ : BlkH) hf100 (i := ii) rfl
                refine wo_rk (rs_st (α := BlkH) (j := ii) (off := 3) (q := 4) (⟨(hv.getD ii default).h, (hv.getD ii default).fin, (hv.getD ii default).reg, r52 - 2, (hv.getD ii default).els⟩ : BlkH) lrh15_3_2 hs100 rfl rfl rfl rfl rfl rfl rfl rfl (getD_at (x := default) (by first | omega | (dsimp only; omega))) rfl (by rintro cs ⟨rfl, qg1, qg2, qg3, qg4⟩; exact ⟨Nat.le_of_ble_eq_true rfl, ⟨rfl, qg1, qg2, by first | omega | (dsimp only; omega), qg4⟩⟩)) rfl ?_
                rintro _ H104 p102 ⟨ho103, hs104, _⟩
                have hs104 : HS _ _ _ [_, _, _, _, p102, _, _] _ := hs104
                have hnp102 := OS.len' ho103
                refine wo_end 3 rfl ?_
                refine wk_region ?_
                refine wro 1 0 [(0, .o (.agg ⟨[(.int .i64 c.params), (.int .i64 c.regs), (.slice lra15_3_2 hv.length lrk15_3_2)]⟩))] 185 185 [] [(185, (.agg ⟨[(.int .i64 c.params), (.int .i64 c.regs), (.slice lra15_3_2 hv.length lrk15_3_2)]⟩))] (vA (qn 24 0 3 (HS.hc hs104 (i := 3) rfl) rfl rfl rfl rfl) trivial) (by kernel_rfl) rfl fun gg105 => ?_
                refine wo_rk (rs_rec (q := 1) hs104 rfl rfl rfl rfl rfl rfl rfl rfl rfl) rfl ?_
                rintro _ H106 _ ⟨hs106, _⟩
                have hs106 : HS _ _ _ [_, [(b3, .cells [(.int .i64 c.params), (.int .i64 c.regs), (.slice lra15_3_2 hv.length lrk15_3_2)] none false)], _, _, _, _, _] _ := hs106
                refine wo_end 1 rfl ?_
                obtain ⟨F107, hF107, hs107, ha107⟩ := SF.freeze hf101 hs106 (q := 5) rfl
                have hs107 : HS _ _ _ [_, _, _, _, _, [], _] _ := hs107
                replace hT := hT.mono hF107
                replace hc_2 := hc_2.mono hF107
                replace ho103 := ho103.mono hF107
                replace ho44 := ho44.mono hF107
                replace lrh15_3_2 := lrh15_3_2.mono hF107
                obtain ⟨F108, hF108, hs108, hr108, hp108⟩ := OS.frz ho103 hs107 (i := 4) rfl
                have hs108 : HS _ _ _ [_, _, _, _, [], _, _] _ := hs108
                replace hT := hT.mono hF108
                replace hc_2 := hc_2.mono hF108
                replace ho44 := ho44.mono hF108
                replace lrh15_3_2 := lrh15_3_2.mono hF108
                have hq108 := blkH_rows hr108 (by omega) (fun i hi => SR.mono hF108 (ha107 i hi))
                have ln108 := SR.len' hq108
                have hq108N := SR.norm hq108
                refine wk_ret ⟨.inr rfl, _, (rC rfl (ldVN rfl rfl (HS.hc hs108 (i := 1) rfl) rfl) rN), (⟨c.params, c.regs, (blkZ (hv.set ii (⟨(hv.getD ii default).h, (hv.getD ii default).fin, (hv.getD ii default).reg, r52 - 2, (hv.getD ii default).els⟩ : BlkH)) lv)⟩ : VFnT), lra15_3_2, lrk15_3_2, _, (Fz.le_trans (Fz.le_trans (Fz.le_trans (Fz.le_trans (hF15) hF52) hF54) hF107) hF108), (HS.forget hs108), (by simp only [ln108]; rfl), (by first | omega | (dsimp only; omega)), (by first | omega | (dsimp only; omega)), hq108N, (by exact Nat.le_trans blkZ_len (by first | omega | (simp; omega))), (by exact fun m hm => blkZ_ok (by first | exact ok_7 (e4 m hm) | exact ok_7 (fun y hy => e4 m hm y (List.mem_of_mem_take hy)) | exact ok_set (e4 m hm) (Nat.le_succ_of_le (ok_arg (ok_getD (e4 m hm)))) | exact ok_set (e4 m hm) (ok_more (ok_arg (ok_getD (e4 m hm))))))⟩
              · have c98 := c98b
                try simp only [BS] at c98
                refine wr 1 [] 110 112 [] [(110, (.bool (r54 == 5)))] trivial (by kernel_rfl) rfl fun gg109 => ?_
                refine wk_if 0 1 (v := (r54 == 5)) rfl rfl rfl rfl (fun c110b => ?_) (fun c110b => ?_)
                · have c110 := c110b
                  try simp only [BS] at c110
                  refine wk_region ?_
                  refine wro 4 0 [] 113 116 [] [(114, (.int .i64 (r52 - 2))), (116, (.pointer (some ⟨sB (.slice lra15_3_2 hv.length lrk15_3_2), sO (.slice lra15_3_2 hv.length lrk15_3_2) + ii * Rp.sz BlkH + 4, none⟩)))] trivial (by kernel_rfl) rfl fun gg111 => ?_
                  obtain ⟨fq112, hs112, hf112⟩ := SF.shut0 fw44 (Fz.le_trans (hF52) hF54) hs54 (q := 5) (m := 6) (by decide) rfl rfl ho44
                  have hs112 : HS _ _ _ [_, _, _, _, _, fq112, []] _ := hs112
                  have fl112 := FAM.len hf112
                  have hf113 := SF.put (⟨(hv.getD ii default).h, (hv.getD ii default).fin, (hv.getD ii default).reg, (hv.getD ii default).tgt, r52 - 2⟩ : BlkH) hf112 (i := ii) rfl
                  refine wo_rk (rs_st (α := BlkH) (j := ii) (off := 4) (q := 4) (⟨(hv.getD ii default).h, (hv.getD ii default).fin, (hv.getD ii default).reg, (hv.getD ii default).tgt, r52 - 2⟩ : BlkH) lrh15_3_2 hs112 rfl rfl rfl rfl rfl rfl rfl rfl (getD_at (x := default) (by first | omega | (dsimp only; omega))) rfl (by rintro cs ⟨rfl, qg1, qg2, qg3, qg4⟩; exact ⟨Nat.le_of_ble_eq_true rfl, ⟨rfl, qg1, qg2, qg3, by first | omega | (dsimp only; omega)⟩⟩)) rfl ?_
                  rintro _ H116 p114 ⟨ho115, hs116, _⟩
                  have hs116 : HS _ _ _ [_, _, _, _, p114, _, _] _ := hs116
                  have hnp114 := OS.len' ho115
                  refine wo_end 3 rfl ?_
                  refine wk_region ?_
                  refine wro 1 0 [(0, .o (.agg ⟨[(.int .i64 c.params), (.int .i64 c.regs), (.slice lra15_3_2 hv.length lrk15_3_2)]⟩))] 185 185 [] [(185, (.agg ⟨[(.int .i64 c.params), (.int .i64 c.regs), (.slice lra15_3_2 hv.length lrk15_3_2)]⟩))] (vA (qn 24 0 3 (HS.hc hs116 (i := 3) rfl) rfl rfl rfl rfl) trivial) (by kernel_rfl) rfl fun gg117 => ?_
                  refine wo_rk (rs_rec (q := 1) hs116 rfl rfl rfl rfl rfl rfl rfl rfl rfl) rfl ?_
                  rintro _ H118 _ ⟨hs118, _⟩
                  have hs118 : HS _ _ _ [_, [(b3, .cells [(.int .i64 c.params), (.int .i64 c.regs), (.slice lra15_3_2 hv.length lrk15_3_2)] none false)], _, _, _, _, _] _ := hs118
                  refine wo_end 1 rfl ?_
                  obtain ⟨F119, hF119, hs119, ha119⟩ := SF.freeze hf113 hs118 (q := 5) rfl
                  have hs119 : HS _ _ _ [_, _, _, _, _, [], _] _ := hs119
                  replace hT := hT.mono hF119
                  replace hc_2 := hc_2.mono hF119
                  replace ho115 := ho115.mono hF119
                  replace ho44 := ho44.mono hF119
                  replace lrh15_3_2 := lrh15_3_2.mono hF119
                  obtain ⟨F120, hF120, hs120, hr120, hp120⟩ := OS.frz ho115 hs119 (i := 4) rfl
                  have hs120 : HS _ _ _ [_, _, _, _, [], _, _] _ := hs120
                  replace hT := hT.mono hF120
                  replace hc_2 := hc_2.mono hF120
                  replace ho44 := ho44.mono hF120
                  replace lrh15_3_2 := lrh15_3_2.mono hF120
                  have hq120 := blkH_rows hr120 (by omega) (fun i hi => SR.mono hF120 (ha119 i hi))
                  have ln120 := SR.len' hq120
                  have hq120N := SR.norm hq120
                  refine wk_ret ⟨.inr rfl, _, (rC rfl (ldVN rfl rfl (HS.hc hs120 (i := 1) rfl) rfl) rN), (⟨c.params, c.regs, (blkZ (hv.set ii (⟨(hv.getD ii default).h, (hv.getD ii default).fin, (hv.getD ii default).reg, (hv.getD ii default).tgt, r52 - 2⟩ : BlkH)) lv)⟩ : VFnT), lra15_3_2, lrk15_3_2, _, (Fz.le_trans (Fz.le_trans (Fz.le_trans (Fz.le_trans (hF15) hF52) hF54) hF119) hF120), (HS.forget hs120), (by simp only [ln120]; rfl), (by first | omega | (dsimp only; omega)), (by first | omega | (dsimp only; omega)), hq120N, (by exact Nat.le_trans blkZ_len (by first | omega | (simp; omega))), (by exact fun m hm => blkZ_ok (by first | exact ok_7 (e4 m hm) | exact ok_7 (fun y hy => e4 m hm y (List.mem_of_mem_take hy)) | exact ok_set (e4 m hm) (Nat.le_succ_of_le (ok_arg (ok_getD (e4 m hm)))) | exact ok_set (e4 m hm) (ok_more (ok_arg (ok_getD (e4 m hm))))))⟩
                · have c110 := c110b
                  try simp only [BS] at c110
                  refine wr 1 [] 117 119 [] [(117, (.bool (r54 == 6)))] trivial (by kernel_rfl) rfl fun gg121 => ?_
                  refine wk_if 0 1 (v := (r54 == 6)) rfl rfl rfl rfl (fun c122b => ?_) (fun c122b => ?_)
                  · have c122 := c122b
                    try simp only [BS] at c122
                    refine wk_region ?_
                    refine wro 5 0 [] 120 124 [] [(121, (.int .i64 (r52 - 2))), (124, (.pointer (some ⟨sB (.slice (hv.getD ii default).h.a (hv.getD ii default).h.n (hv.getD ii default).h.k), sO (.slice (hv.getD ii default).h.a (hv.getD ii default).h.n (hv.getD ii default).h.k) + kk * Rp.sz VInT, none⟩)))] trivial (by kernel_rfl) rfl fun gg123 => ?_
                    refine wo_rk (rs_st (α := VInT) (j := kk) (off := 0) (q := 6) (⟨(⟨r52 - 2, ((lv.getD ii default).getD kk default).i.a, ((lv.getD ii default).getD kk default).i.b, ((lv.getD ii default).getD kk default).i.c, ((lv.getD ii default).getD kk default).i.n⟩ : InsT), ((lv.getD ii default).getD kk default).args⟩ : VInT) ho44 hs54 rfl rfl rfl rfl rfl rfl rfl rfl (getD_at (x := default) (by first | omega | (dsimp only; omega))) rfl (by rintro cs ⟨qa5, qk5, rfl, qg0, qg1, qg2, qg3, qg4, qh5⟩; exact ⟨Nat.le_of_ble_eq_true rfl, ⟨qa5, qk5, rfl, by first | omega | (dsimp only; omega), qg1, qg2, qg3, qg4, qh5⟩⟩)) rfl ?_
                    rintro _ H126 p124 ⟨ho125, hs126, _⟩
                    have hs126 : HS _ _ _ [_, _, _, _, _, _, p124] _ := hs126
                    have hnp124 := OS.len' ho125
                    refine wo_end 3 rfl ?_
                    refine wk_region ?_
                    refine wro 1 0 [(0, .o (.agg ⟨[(.int .i64 c.params), (.int .i64 c.regs), (.slice lra15_3_2 hv.length lrk15_3_2)]⟩))] 185 185 [] [(185, (.agg ⟨[(.int .i64 c.params), (.int .i64 c.regs), (.slice lra15_3_2 hv.length lrk15_3_2)]⟩))] (vA (qn 24 0 3 (HS.hc hs126 (i := 3) rfl) rfl rfl rfl rfl) trivial) (by kernel_rfl) rfl fun gg127 => ?_
                    refine wo_rk (rs_rec (q := 1) hs126 rfl rfl rfl rfl rfl rfl rfl rfl rfl) rfl ?_
                    rintro _ H128 _ ⟨hs128, _⟩
                    have hs128 : HS _ _ _ [_, [(b3, .cells [(.int .i64 c.params), (.int .i64 c.regs), (.slice lra15_3_2 hv.length lrk15_3_2)] none false)], _, _, _, _, _] _ := hs128
                    refine wo_end 1 rfl ?_
                    obtain ⟨fq129, hs129, hf129⟩ := SF.shut fw44 (Fz.le_trans (hF52) hF54) hs128 (q := 5) (m := 6) (by decide) rfl rfl ho125
                    have hs129 : HS _ _ _ [_, _, _, _, _, fq129, []] _ := hs129
                    have fl129 := FAM.len hf129
                    obtain ⟨F130, hF130, hs130, ha130⟩ := SF.freeze hf129 hs129 (q := 5) rfl
                    have hs130 : HS _ _ _ [_, _, _, _, _, [], _] _ := hs130
                    replace hT := hT.mono hF130
                    replace hc_2 := hc_2.mono hF130
                    replace ho44 := ho44.mono hF130
                    replace lrh15_3_2 := lrh15_3_2.mono hF130
                    obtain ⟨F131, hF131, hs131, hr131, hp131⟩ := OS.frz lrh15_3_2 hs130 (i := 4) rfl
                    have hs131 : HS _ _ _ [_, _, _, _, [], _, _] _ := hs131
                    replace hT := hT.mono hF131
                    replace hc_2 := hc_2.mono hF131
                    replace ho44 := ho44.mono hF131
                    have hq131 := blkH_rows hr131 (by omega) (fun i hi => SR.mono hF131 (ha130 i hi))
                    have ln131 := SR.len' hq131
                    have hq131N := SR.norm hq131
                    refine wk_ret ⟨.inr rfl, _, (rC rfl (ldVN rfl rfl (HS.hc hs131 (i := 1) rfl) rfl) rN), (⟨c.params, c.regs, (blkZ hv (lv.set ii ((lv.getD ii default).set kk (⟨(⟨r52 - 2, ((lv.getD ii default).getD kk default).i.a, ((lv.getD ii default).getD kk default).i.b, ((lv.getD ii default).getD kk default).i.c, ((lv.getD ii default).getD kk default).i.n⟩ : InsT), ((lv.getD ii default).getD kk default).args⟩ : VInT))))⟩ : VFnT), lra15_3_2, lrk15_3_2, _, (Fz.le_trans (Fz.le_trans (Fz.le_trans (Fz.le_trans (hF15) hF52) hF54) hF130) hF131), (HS.forget hs131), (by simp only [ln131]; rfl), (by first | omega | (dsimp only; omega)), (by first | omega | (dsimp only; omega)), hq131N, (by exact Nat.le_trans blkZ_len (by first | omega | (simp; omega))), (by exact fun m hm => blkZ_ok (by first | exact ok_7 (e4 m hm) | exact ok_7 (fun y hy => e4 m hm y (List.mem_of_mem_take hy)) | exact ok_set (e4 m hm) (Nat.le_succ_of_le (ok_arg (ok_getD (e4 m hm)))) | exact ok_set (e4 m hm) (ok_more (ok_arg (ok_getD (e4 m hm))))))⟩
                  · have c122 := c122b
                    try simp only [BS] at c122
                    refine wr 1 [] 125 127 [] [(125, (.bool (r54 == 7)))] trivial (by kernel_rfl) rfl fun gg132 => ?_
                    refine wk_if 0 1 (v := (r54 == 7)) rfl rfl rfl rfl (fun c133b => ?_) (fun c133b => ?_)
                    · have c133 := c133b
                      try simp only [BS] at c133
                      refine wk_region ?_
                      refine wro 5 0 [] 128 132 [] [(129, (.int .i64 (r52 - 2))), (132, (.pointer (some ⟨sB (.slice (hv.getD ii default).h.a (hv.getD ii default).h.n (hv.getD ii default).h.k), sO (.slice (hv.getD ii default).h.a (hv.getD ii default).h.n (hv.getD ii default).h.k) + kk * Rp.sz VInT + 1, none⟩)))] trivial (by kernel_rfl) rfl fun gg134 => ?_
                      refine wo_rk (rs_st (α := VInT) (j := kk) (off := 1) (q := 6) (⟨(⟨((lv.getD ii default).getD kk default).i.op, r52 - 2, ((lv.getD ii default).getD kk default).i.b, ((lv.getD ii default).getD kk default).i.c, ((lv.getD ii default).getD kk default).i.n⟩ : InsT), ((lv.getD ii default).getD kk default).args⟩ : VInT) ho44 hs54 rfl rfl rfl rfl rfl rfl rfl rfl (getD_at (x := default) (by first | omega | (dsimp only; omega))) rfl (by rintro cs ⟨qa5, qk5, rfl, qg0, qg1, qg2, qg3, qg4, qh5⟩; exact ⟨Nat.le_of_ble_eq_true rfl, ⟨qa5, qk5, rfl, qg0, by first | omega | (dsimp only; omega), qg2, qg3, qg4, qh5⟩⟩)) rfl ?_
                      rintro _ H137 p135 ⟨ho136, hs137, _⟩
                      have hs137 : HS _ _ _ [_, _, _, _, _, _, p135] _ := hs137
                      have hnp135 := OS.len' ho136
                      refine wo_end 3 rfl ?_
                      refine wk_region ?_
                      refine wro 1 0 [(0, .o (.agg ⟨[(.int .i64 c.params), (.int .i64 c.regs), (.slice lra15_3_2 hv.length lrk15_3_2)]⟩))] 185 185 [] [(185, (.agg ⟨[(.int .i64 c.params), (.int .i64 c.regs), (.slice lra15_3_2 hv.length lrk15_3_2)]⟩))] (vA (qn 24 0 3 (HS.hc hs137 (i := 3) rfl) rfl rfl rfl rfl) trivial) (by kernel_rfl) rfl fun gg138 => ?_
                      refine wo_rk (rs_rec (q := 1) hs137 rfl rfl rfl rfl rfl rfl rfl rfl rfl) rfl ?_
                      rintro _ H139 _ ⟨hs139, _⟩
                      have hs139 : HS _ _ _ [_, [(b3, .cells [(.int .i64 c.params), (.int .i64 c.regs), (.slice lra15_3_2 hv.length lrk15_3_2)] none false)], _, _, _, _, _] _ := hs139
                      refine wo_end 1 rfl ?_
                      obtain ⟨fq140, hs140, hf140⟩ := SF.shut fw44 (Fz.le_trans (hF52) hF54) hs139 (q := 5) (m := 6) (by decide) rfl rfl ho136
                      have hs140 : HS _ _ _ [_, _, _, _, _, fq140, []] _ := hs140
                      have fl140 := FAM.len hf140
                      obtain ⟨F141, hF141, hs141, ha141⟩ := SF.freeze hf140 hs140 (q := 5) rfl
                      have hs141 : HS _ _ _ [_, _, _, _, _, [], _] _ := hs141
                      replace hT := hT.mono hF141
                      replace hc_2 := hc_2.mono hF141
                      replace ho44 := ho44.mono hF141
                      replace lrh15_3_2 := lrh15_3_2.mono hF141
                      obtain ⟨F142, hF142, hs142, hr142, hp142⟩ := OS.frz lrh15_3_2 hs141 (i := 4) rfl
                      have hs142 : HS _ _ _ [_, _, _, _, [], _, _] _ := hs142
                      replace hT := hT.mono hF142
                      replace hc_2 := hc_2.mono hF142
                      replace ho44 := ho44.mono hF142
                      have hq142 := blkH_rows hr142 (by omega) (fun i hi => SR.mono hF142 (ha141 i hi))
                      have ln142 := SR.len' hq142
                      have hq142N := SR.norm hq142
                      refine wk_ret ⟨.inr rfl, _, (rC rfl (ldVN rfl rfl (HS.hc hs142 (i := 1) rfl) rfl) rN), (⟨c.params, c.regs, (blkZ hv (lv.set ii ((lv.getD ii default).set kk (⟨(⟨((lv.getD ii default).getD kk default).i.op, r52 - 2, ((lv.getD ii default).getD kk default).i.b, ((lv.getD ii default).getD kk default).i.c, ((lv.getD ii default).getD kk default).i.n⟩ : InsT), ((lv.getD ii default).getD kk default).args⟩ : VInT))))⟩ : VFnT), lra15_3_2, lrk15_3_2, _, (Fz.le_trans (Fz.le_trans (Fz.le_trans (Fz.le_trans (hF15) hF52) hF54) hF141) hF142), (HS.forget hs142), (by simp only [ln142]; rfl), (by first | omega | (dsimp only; omega)), (by first | omega | (dsimp only; omega)), hq142N, (by exact Nat.le_trans blkZ_len (by first | omega | (simp; omega))), (by exact fun m hm => blkZ_ok (by first | exact ok_7 (e4 m hm) | exact ok_7 (fun y hy => e4 m hm y (List.mem_of_mem_take hy)) | exact ok_set (e4 m hm) (Nat.le_succ_of_le (ok_arg (ok_getD (e4 m hm)))) | exact ok_set (e4 m hm) (ok_more (ok_arg (ok_getD (e4 m hm))))))⟩
                    · have c133 := c133b
                      try simp only [BS] at c133
                      refine wr 1 [] 133 135 [] [(133, (.bool (r54 == 8)))] trivial (by kernel_rfl) rfl fun gg143 => ?_
                      refine wk_if 0 1 (v := (r54 == 8)) rfl rfl rfl rfl (fun c144b => ?_) (fun c144b => ?_)
                      · have c144 := c144b
                        try simp only [BS] at c144
                        refine wk_region ?_
                        refine wro 5 0 [] 136 140 [] [(137, (.int .i64 (r52 - 2))), (140, (.pointer (some ⟨sB (.slice (hv.getD ii default).h.a (hv.getD ii default).h.n (hv.getD ii default).h.k), sO (.slice (hv.getD ii default).h.a (hv.getD ii default).h.n (hv.getD ii default).h.k) + kk * Rp.sz VInT + 2, none⟩)))] trivial (by kernel_rfl) rfl fun gg145 => ?_
                        refine wo_rk (rs_st (α := VInT) (j := kk) (off := 2) (q := 6) (⟨(⟨((lv.getD ii default).getD kk default).i.op, ((lv.getD ii default).getD kk default).i.a, r52 - 2, ((lv.getD ii default).getD kk default).i.c, ((lv.getD ii default).getD kk default).i.n⟩ : InsT), ((lv.getD ii default).getD kk default).args⟩ : VInT) ho44 hs54 rfl rfl rfl rfl rfl rfl rfl rfl (getD_at (x := default) (by first | omega | (dsimp only; omega))) rfl (by rintro cs ⟨qa5, qk5, rfl, qg0, qg1, qg2, qg3, qg4, qh5⟩; exact ⟨Nat.le_of_ble_eq_true rfl, ⟨qa5, qk5, rfl, qg0, qg1, by first | omega | (dsimp only; omega), qg3, qg4, qh5⟩⟩)) rfl ?_
                        rintro _ H148 p146 ⟨ho147, hs148, _⟩
                        have hs148 : HS _ _ _ [_, _, _, _, _, _, p146] _ := hs148
                        have hnp146 := OS.len' ho147
                        refine wo_end 3 rfl ?_
                        refine wk_region ?_
                        refine wro 1 0 [(0, .o (.agg ⟨[(.int .i64 c.params), (.int .i64 c.regs), (.slice lra15_3_2 hv.length lrk15_3_2)]⟩))] 185 185 [] [(185, (.agg ⟨[(.int .i64 c.params), (.int .i64 c.regs), (.slice lra15_3_2 hv.length lrk15_3_2)]⟩))] (vA (qn 24 0 3 (HS.hc hs148 (i := 3) rfl) rfl rfl rfl rfl) trivial) (by kernel_rfl) rfl fun gg149 => ?_
                        refine wo_rk (rs_rec (q := 1) hs148 rfl rfl rfl rfl rfl rfl rfl rfl rfl) rfl ?_
                        rintro _ H150 _ ⟨hs150, _⟩
                        have hs150 : HS _ _ _ [_, [(b3, .cells [(.int .i64 c.params), (.int .i64 c.regs), (.slice lra15_3_2 hv.length lrk15_3_2)] none false)], _, _, _, _, _] _ := hs150
                        refine wo_end 1 rfl ?_
                        obtain ⟨fq151, hs151, hf151⟩ := SF.shut fw44 (Fz.le_trans (hF52) hF54) hs150 (q := 5) (m := 6) (by decide) rfl rfl ho147
                        have hs151 : HS _ _ _ [_, _, _, _, _, fq151, []] _ := hs151
                        have fl151 := FAM.len hf151
                        obtain ⟨F152, hF152, hs152, ha152⟩ := SF.freeze hf151 hs151 (q := 5) rfl
                        have hs152 : HS _ _ _ [_, _, _, _, _, [], _] _ := hs152
                        replace hT := hT.mono hF152
                        replace hc_2 := hc_2.mono hF152
                        replace ho44 := ho44.mono hF152
                        replace lrh15_3_2 := lrh15_3_2.mono hF152
                        obtain ⟨F153, hF153, hs153, hr153, hp153⟩ := OS.frz lrh15_3_2 hs152 (i := 4) rfl
                        have hs153 : HS _ _ _ [_, _, _, _, [], _, _] _ := hs153
                        replace hT := hT.mono hF153
                        replace hc_2 := hc_2.mono hF153
                        replace ho44 := ho44.mono hF153
                        have hq153 := blkH_rows hr153 (by omega) (fun i hi => SR.mono hF153 (ha152 i hi))
                        have ln153 := SR.len' hq153
                        have hq153N := SR.norm hq153
                        refine wk_ret ⟨.inr rfl, _, (rC rfl (ldVN rfl rfl (HS.hc hs153 (i := 1) rfl) rfl) rN), (⟨c.params, c.regs, (blkZ hv (lv.set ii ((lv.getD ii default).set kk (⟨(⟨((lv.getD ii default).getD kk default).i.op, ((lv.getD ii default).getD kk default).i.a, r52 - 2, ((lv.getD ii default).getD kk default).i.c, ((lv.getD ii default).getD kk default).i.n⟩ : InsT), ((lv.getD ii default).getD kk default).args⟩ : VInT))))⟩ : VFnT), lra15_3_2, lrk15_3_2, _, (Fz.le_trans (Fz.le_trans (Fz.le_trans (Fz.le_trans (hF15) hF52) hF54) hF152) hF153), (HS.forget hs153), (by simp only [ln153]; rfl), (by first | omega | (dsimp only; omega)), (by first | omega | (dsimp only; omega)), hq153N, (by exact Nat.le_trans blkZ_len (by first | omega | (simp; omega))), (by exact fun m hm => blkZ_ok (by first | exact ok_7 (e4 m hm) | exact ok_7 (fun y hy => e4 m hm y (List.mem_of_mem_take hy)) | exact ok_set (e4 m hm) (Nat.le_succ_of_le (ok_arg (ok_getD (e4 m hm)))) | exact ok_set (e4 m hm) (ok_more (ok_arg (ok_getD (e4 m hm))))))⟩
                      · have c144 := c144b
                        try simp only [BS] at c144
                        refine wr 1 [] 141 143 [] [(141, (.bool (r54 == 9)))] trivial (by kernel_rfl) rfl fun gg154 => ?_
                        refine wk_if 0 1 (v := (r54 == 9)) rfl rfl rfl rfl (fun c155b => ?_) (fun c155b => ?_)
                        · have c155 := c155b
                          try simp only [BS] at c155
                          refine wk_region ?_
                          refine wro 5 0 [] 144 148 [] [(145, (.int .i64 (r52 - 2))), (148, (.pointer (some ⟨sB (.slice (hv.getD ii default).h.a (hv.getD ii default).h.n (hv.getD ii default).h.k), sO (.slice (hv.getD ii default).h.a (hv.getD ii default).h.n (hv.getD ii default).h.k) + kk * Rp.sz VInT + 3, none⟩)))] trivial (by kernel_rfl) rfl fun gg156 => ?_
                          refine wo_rk (rs_st (α := VInT) (j := kk) (off := 3) (q := 6) (⟨(⟨((lv.getD ii default).getD kk default).i.op, ((lv.getD ii default).getD kk default).i.a, ((lv.getD ii default).getD kk default).i.b, r52 - 2, ((lv.getD ii default).getD kk default).i.n⟩ : InsT), ((lv.getD ii default).getD kk default).args⟩ : VInT) ho44 hs54 rfl rfl rfl rfl rfl rfl rfl rfl (getD_at (x := default) (by first | omega | (dsimp only; omega))) rfl (by rintro cs ⟨qa5, qk5, rfl, qg0, qg1, qg2, qg3, qg4, qh5⟩; exact ⟨Nat.le_of_ble_eq_true rfl, ⟨qa5, qk5, rfl, qg0, qg1, qg2, by first | omega | (dsimp only; omega), qg4, qh5⟩⟩)) rfl ?_
                          rintro _ H159 p157 ⟨ho158, hs159, _⟩
                          have hs159 : HS _ _ _ [_, _, _, _, _, _, p157] _ := hs159
                          have hnp157 := OS.len' ho158
                          refine wo_end 3 rfl ?_
                          refine wk_region ?_
                          refine wro 1 0 [(0, .o (.agg ⟨[(.int .i64 c.params), (.int .i64 c.regs), (.slice lra15_3_2 hv.length lrk15_3_2)]⟩))] 185 185 [] [(185, (.agg ⟨[(.int .i64 c.params), (.int .i64 c.regs), (.slice lra15_3_2 hv.length lrk15_3_2)]⟩))] (vA (qn 24 0 3 (HS.hc hs159 (i := 3) rfl) rfl rfl rfl rfl) trivial) (by kernel_rfl) rfl fun gg160 => ?_
                          refine wo_rk (rs_rec (q := 1) hs159 rfl rfl rfl rfl rfl rfl rfl rfl rfl) rfl ?_
                          rintro _ H161 _ ⟨hs161, _⟩
                          have hs161 : HS _ _ _ [_, [(b3, .cells [(.int .i64 c.params), (.int .i64 c.regs), (.slice lra15_3_2 hv.length lrk15_3_2)] none false)], _, _, _, _, _] _ := hs161
                          refine wo_end 1 rfl ?_
                          obtain ⟨fq162, hs162, hf162⟩ := SF.shut fw44 (Fz.le_trans (hF52) hF54) hs161 (q := 5) (m := 6) (by decide) rfl rfl ho158
                          have hs162 : HS _ _ _ [_, _, _, _, _, fq162, []] _ := hs162
                          have fl162 := FAM.len hf162
                          obtain ⟨F163, hF163, hs163, ha163⟩ := SF.freeze hf162 hs162 (q := 5) rfl
                          have hs163 : HS _ _ _ [_, _, _, _, _, [], _] _ := hs163
                          replace hT := hT.mono hF163
                          replace hc_2 := hc_2.mono hF163
                          replace ho44 := ho44.mono hF163
                          replace lrh15_3_2 := lrh15_3_2.mono hF163
                          obtain ⟨F164, hF164, hs164, hr164, hp164⟩ := OS.frz lrh15_3_2 hs163 (i := 4) rfl
                          have hs164 : HS _ _ _ [_, _, _, _, [], _, _] _ := hs164
                          replace hT := hT.mono hF164
                          replace hc_2 := hc_2.mono hF164
                          replace ho44 := ho44.mono hF164
                          have hq164 := blkH_rows hr164 (by omega) (fun i hi => SR.mono hF164 (ha163 i hi))
                          have ln164 := SR.len' hq164
                          have hq164N := SR.norm hq164
                          refine wk_ret ⟨.inr rfl, _, (rC rfl (ldVN rfl rfl (HS.hc hs164 (i := 1) rfl) rfl) rN), (⟨c.params, c.regs, (blkZ hv (lv.set ii ((lv.getD ii default).set kk (⟨(⟨((lv.getD ii default).getD kk default).i.op, ((lv.getD ii default).getD kk default).i.a, ((lv.getD ii default).getD kk default).i.b, r52 - 2, ((lv.getD ii default).getD kk default).i.n⟩ : InsT), ((lv.getD ii default).getD kk default).args⟩ : VInT))))⟩ : VFnT), lra15_3_2, lrk15_3_2, _, (Fz.le_trans (Fz.le_trans (Fz.le_trans (Fz.le_trans (hF15) hF52) hF54) hF163) hF164), (HS.forget hs164), (by simp only [ln164]; rfl), (by first | omega | (dsimp only; omega)), (by first | omega | (dsimp only; omega)), hq164N, (by exact Nat.le_trans blkZ_len (by first | omega | (simp; omega))), (by exact fun m hm => blkZ_ok (by first | exact ok_7 (e4 m hm) | exact ok_7 (fun y hy => e4 m hm y (List.mem_of_mem_take hy)) | exact ok_set (e4 m hm) (Nat.le_succ_of_le (ok_arg (ok_getD (e4 m hm)))) | exact ok_set (e4 m hm) (ok_more (ok_arg (ok_getD (e4 m hm))))))⟩
                        · have c155 := c155b
                          try simp only [BS] at c155
                          refine wr 1 [] 149 151 [] [(149, (.bool (r54 == 10)))] trivial (by kernel_rfl) rfl fun gg165 => ?_
                          refine wk_if 0 1 (v := (r54 == 10)) rfl rfl rfl rfl (fun c166b => ?_) (fun c166b => ?_)
                          · have c166 := c166b
                            try simp only [BS] at c166
                            refine wk_region ?_
                            refine wro 2 0 [] 152 153 [] [(152, (.pointer (some ⟨sB (.slice (hv.getD ii default).h.a (hv.getD ii default).h.n (hv.getD ii default).h.k), sO (.slice (hv.getD ii default).h.a (hv.getD ii default).h.n (hv.getD ii default).h.k) + kk * Rp.sz VInT, none⟩))), (153, (.int .i64 (r52 - 2)))] trivial (by kernel_rfl) rfl fun gg167 => ?_
                            refine wo_call (ap_call rfl rfl rfl) rfl rfl (m4.word_c ex (r52 - 2) (1099511627776) (HS.call hs54) (by first | omega | (dsimp only; omega)) (by first | omega | (dsimp only; omega)) hT) ?_
                            rintro _ H168 ⟨r168, F168, hF168, hs168, rfl, h168⟩
                            replace hs168 := HS.back hs54 rfl hs168
                            have hs168 : HS _ _ _ [_, _, _, _, _, _, _] _ := hs168
                            replace hT := hT.mono hF168
                            replace hc_2 := hc_2.mono hF168
                            replace ho44 := ho44.mono hF168
                            replace lrh15_3_2 := lrh15_3_2.mono hF168
                            refine wro 3 3 [] 155 157 [] [(157, (.pointer (some ⟨sB (.slice (hv.getD ii default).h.a (hv.getD ii default).h.n (hv.getD ii default).h.k), sO (.slice (hv.getD ii default).h.a (hv.getD ii default).h.n (hv.getD ii default).h.k) + kk * Rp.sz VInT + 4, none⟩)))] trivial (by kernel_rfl) rfl fun gg169 => ?_
                            refine wo_rk (rs_st (α := VInT) (j := kk) (off := 4) (q := 6) (⟨(⟨((lv.getD ii default).getD kk default).i.op, ((lv.getD ii default).getD kk default).i.a, ((lv.getD ii default).getD kk default).i.b, ((lv.getD ii default).getD kk default).i.c, r168⟩ : InsT), ((lv.getD ii default).getD kk default).args⟩ : VInT) ho44 hs168 rfl rfl rfl rfl rfl rfl rfl rfl (getD_at (x := default) (by first | omega | (dsimp only; omega))) rfl (by rintro cs ⟨qa5, qk5, rfl, qg0, qg1, qg2, qg3, qg4, qh5⟩; exact ⟨Nat.le_of_ble_eq_true rfl, ⟨qa5, qk5, rfl, qg0, qg1, qg2, qg3, by first | omega | (dsimp only; omega), qh5⟩⟩)) rfl ?_
                            rintro _ H172 p170 ⟨ho171, hs172, _⟩
                            have hs172 : HS _ _ _ [_, _, _, _, _, _, p170] _ := hs172
                            have hnp170 := OS.len' ho171
                            refine wo_end 3 rfl ?_
                            refine wk_region ?_
                            refine wro 1 0 [(0, .o (.agg ⟨[(.int .i64 c.params), (.int .i64 c.regs), (.slice lra15_3_2 hv.length lrk15_3_2)]⟩))] 185 185 [] [(185, (.agg ⟨[(.int .i64 c.params), (.int .i64 c.regs), (.slice lra15_3_2 hv.length lrk15_3_2)]⟩))] (vA (qn 24 0 3 (HS.hc hs172 (i := 3) rfl) rfl rfl rfl rfl) trivial) (by kernel_rfl) rfl fun gg173 => ?_
                            refine wo_rk (rs_rec (q := 1) hs172 rfl rfl rfl rfl rfl rfl rfl rfl rfl) rfl ?_
                            rintro _ H174 _ ⟨hs174, _⟩
                            have hs174 : HS _ _ _ [_, [(b3, .cells [(.int .i64 c.params), (.int .i64 c.regs), (.slice lra15_3_2 hv.length lrk15_3_2)] none false)], _, _, _, _, _] _ := hs174
                            refine wo_end 1 rfl ?_
                            obtain ⟨fq175, hs175, hf175⟩ := SF.shut fw44 (Fz.le_trans (Fz.le_trans (hF52) hF54) hF168) hs174 (q := 5) (m := 6) (by decide) rfl rfl ho171
                            have hs175 : HS _ _ _ [_, _, _, _, _, fq175, []] _ := hs175
                            have fl175 := FAM.len hf175
                            obtain ⟨F176, hF176, hs176, ha176⟩ := SF.freeze hf175 hs175 (q := 5) rfl
                            have hs176 : HS _ _ _ [_, _, _, _, _, [], _] _ := hs176
                            replace hT := hT.mono hF176
                            replace hc_2 := hc_2.mono hF176
                            replace ho44 := ho44.mono hF176
                            replace lrh15_3_2 := lrh15_3_2.mono hF176
                            obtain ⟨F177, hF177, hs177, hr177, hp177⟩ := OS.frz lrh15_3_2 hs176 (i := 4) rfl
                            have hs177 : HS _ _ _ [_, _, _, _, [], _, _] _ := hs177
                            replace hT := hT.mono hF177
                            replace hc_2 := hc_2.mono hF177
                            replace ho44 := ho44.mono hF177
                            have hq177 := blkH_rows hr177 (by omega) (fun i hi => SR.mono hF177 (ha176 i hi))
                            have ln177 := SR.len' hq177
                            have hq177N := SR.norm hq177
                            refine wk_ret ⟨.inr rfl, _, (rC rfl (ldVN rfl rfl (HS.hc hs177 (i := 1) rfl) rfl) rN), (⟨c.params, c.regs, (blkZ hv (lv.set ii ((lv.getD ii default).set kk (⟨(⟨((lv.getD ii default).getD kk default).i.op, ((lv.getD ii default).getD kk default).i.a, ((lv.getD ii default).getD kk default).i.b, ((lv.getD ii default).getD kk default).i.c, r168⟩ : InsT), ((lv.getD ii default).getD kk default).args⟩ : VInT))))⟩ : VFnT), lra15_3_2, lrk15_3_2, _, (Fz.le_trans (Fz.le_trans (Fz.le_trans (Fz.le_trans (Fz.le_trans (hF15) hF52) hF54) hF168) hF176) hF177), (HS.forget hs177), (by simp only [ln177]; rfl), (by first | omega | (dsimp only; omega)), (by first | omega | (dsimp only; omega)), hq177N, (by exact Nat.le_trans blkZ_len (by first | omega | (simp; omega))), (by exact fun m hm => blkZ_ok (by first | exact ok_7 (e4 m hm) | exact ok_7 (fun y hy => e4 m hm y (List.mem_of_mem_take hy)) | exact ok_set (e4 m hm) (Nat.le_succ_of_le (ok_arg (ok_getD (e4 m hm)))) | exact ok_set (e4 m hm) (ok_more (ok_arg (ok_getD (e4 m hm))))))⟩
                          · have c166 := c166b
                            try simp only [BS] at c166
                            refine wr 1 [] 158 160 [] [(158, (.bool (r54 == 11)))] trivial (by kernel_rfl) rfl fun gg178 => ?_
                            refine wk_if 0 1 (v := (r54 == 11)) rfl rfl rfl rfl (fun c179b => ?_) (fun c179b => ?_)
                            · have c179 := c179b
                              try simp only [BS] at c179
                              refine wk_region ?_
                              obtain ⟨cf180, hv180⟩ := Sv.view (OS.sv ho44 hs54 (i := 6) rfl)
                              obtain ⟨g181_0, g181_1, g181_2, g181_3, g181_4, s181_5⟩ := VInT.fx (hv180 kk)
                              refine wro 5 0 [(4, .o (.slice (cA (cf180 kk) 5) (((lv.getD ii default).getD kk default).args).length (cK (cf180 kk) 5)))] 161 165 [] [(161, (.pointer (some ⟨sB (.slice (hv.getD ii default).h.a (hv.getD ii default).h.n (hv.getD ii default).h.k), sO (.slice (hv.getD ii default).h.a (hv.getD ii default).h.n (hv.getD ii default).h.k) + kk * Rp.sz VInT, none⟩))), (165, (.slice (cA (cf180 kk) 5) (((lv.getD ii default).getD kk default).args).length (cK (cf180 kk) 5)))] (vA (ql 25 5 (VInT.vw (hv180 kk) (by first | omega | (dsimp only; omega))) rfl rfl) trivial) (by kernel_rfl) rfl fun gg182 => ?_
                              have hs183 := HS.snoc hs54
                              have hs183 : HS _ _ _ [_, _, _, _, _, _, _, []] _ := hs183
                              refine wo_rs (rs_app (α := Int) (q := 7) (OS.nil : OS F54 (.slice none 0 0) ([] : List Int) []) hs183 rfl rfl rfl (SR.sv s181_5 hs183) rfl rfl rfl rfl rfl rfl rfl (by first | omega | (simp only [List.length_nil]; first | omega | (have hq := ok_arg (i := kk) (ok_getD (i := ii) e2); omega)))) rfl rfl ?_
                              rintro _ H185 p184 ⟨a184, k184, rfl, ho184, hs185, _⟩
                              have hs185 : HS _ _ _ [_, _, _, _, _, _, _, p184] _ := hs185
                              have ho184 : OS F54 (.slice a184 (((lv.getD ii default).getD kk default).args).length k184) (((lv.getD ii default).getD kk default).args) p184 := ho184
                              refine wm (.int .i64 (r52 - 2)) rfl rfl rfl ?_
                              refine wo_rs (rs_lit (α := Int) (ps := [(0, (.int .i64 (r52 - 2)))]) (cells := [(.int .i64 (r52 - 2))]) ([r52 - 2] : List Int) hs185 rfl rfl rfl (by kernel_rfl) ⟨[(.int .i64 (r52 - 2))], [], rfl, ⟨rfl, by first | omega | (dsimp only; omega)⟩, rfl⟩ rfl) rfl rfl ?_
                              rintro _ H187 p186 ⟨a186, k186, rfl, ho186, hs187, _⟩
                              have hs187 : HS _ _ _ [_, _, _, _, _, _, _, _, p186] _ := hs187
                              refine wo_rs (rs_app (α := Int) (q := 7) ho184 hs187 rfl rfl rfl (OS.sv ho186 hs187 (i := 8) rfl) rfl rfl rfl rfl rfl rfl rfl (by first | omega | (simp only [List.length_cons, List.length_nil]; first | omega | (have hq := ok_arg (i := kk) (ok_getD (i := ii) e2); omega)))) rfl rfl ?_
                              rintro _ H189 p188 ⟨a188, k188, rfl, ho188, hs189, _⟩
                              have hs189 : HS _ _ _ [_, _, _, _, _, _, _, p188, _] _ := hs189
                              refine wro 2 9 [] 170 171 [] [(171, (.pointer (some ⟨sB (.slice (hv.getD ii default).h.a (hv.getD ii default).h.n (hv.getD ii default).h.k), sO (.slice (hv.getD ii default).h.a (hv.getD ii default).h.n (hv.getD ii default).h.k) + kk * Rp.sz VInT + 5, none⟩)))] trivial (by kernel_rfl) rfl fun gg190 => ?_
                              obtain ⟨F191, hF191, hs191, hr191, hp191⟩ := OS.frz ho188 hs189 (i := 7) rfl
                              have hs191 : HS _ _ _ [_, _, _, _, _, _, _, [], _] _ := hs191
                              replace hT := hT.mono hF191
                              replace hc_2 := hc_2.mono hF191
                              replace ho184 := ho184.mono hF191
                              replace ho186 := ho186.mono hF191
                              replace ho188 := ho188.mono hF191
                              replace ho44 := ho44.mono hF191
                              replace lrh15_3_2 := lrh15_3_2.mono hF191
                              replace s181_5 := s181_5.mono hF191
                              refine wo_rk (rs_st (α := VInT) (j := kk) (off := 5) (q := 6) (⟨(⟨((lv.getD ii default).getD kk default).i.op, ((lv.getD ii default).getD kk default).i.a, ((lv.getD ii default).getD kk default).i.b, ((lv.getD ii default).getD kk default).i.c, ((lv.getD ii default).getD kk default).i.n⟩ : InsT), (((lv.getD ii default).getD kk default).args) ++ ([r52 - 2] : List Int)⟩ : VInT) ho44 hs191 rfl rfl rfl rfl rfl rfl rfl rfl (getD_at (x := default) (by first | omega | (dsimp only; omega))) rfl (by rintro cs ⟨qa5, qk5, rfl, qg0, qg1, qg2, qg3, qg4, qh5⟩; exact ⟨Nat.le_of_ble_eq_true rfl, ⟨a188, k188, rfl, qg0, qg1, qg2, qg3, qg4, hr191⟩⟩)) rfl ?_
                              rintro _ H194 p192 ⟨ho193, hs194, _⟩
                              have hs194 : HS _ _ _ [_, _, _, _, _, _, p192, _, _] _ := hs194
                              have hnp192 := OS.len' ho193
                              refine wo_end 3 rfl ?_
                              refine wk_region ?_
                              refine wro 1 0 [(0, .o (.agg ⟨[(.int .i64 c.params), (.int .i64 c.regs), (.slice lra15_3_2 hv.length lrk15_3_2)]⟩))] 185 185 [] [(185, (.agg ⟨[(.int .i64 c.params), (.int .i64 c.regs), (.slice lra15_3_2 hv.length lrk15_3_2)]⟩))] (vA (qn 24 0 3 (HS.hc hs194 (i := 3) rfl) rfl rfl rfl rfl) trivial) (by kernel_rfl) rfl fun gg195 => ?_
                              refine wo_rk (rs_rec (q := 1) hs194 rfl rfl rfl rfl rfl rfl rfl rfl rfl) rfl ?_
                              rintro _ H196 _ ⟨hs196, _⟩
                              have hs196 : HS _ _ _ [_, [(b3, .cells [(.int .i64 c.params), (.int .i64 c.regs), (.slice lra15_3_2 hv.length lrk15_3_2)] none false)], _, _, _, _, _, _, _] _ := hs196
                              refine wo_end 1 rfl ?_
                              obtain ⟨fq197, hs197, hf197⟩ := SF.shut fw44 (Fz.le_trans (Fz.le_trans (hF52) hF54) hF191) hs196 (q := 5) (m := 6) (by decide) rfl rfl ho193
                              have hs197 : HS _ _ _ [_, _, _, _, _, fq197, [], _, _] _ := hs197
                              have fl197 := FAM.len hf197
                              obtain ⟨F198, hF198, hs198, ha198⟩ := SF.freeze hf197 hs197 (q := 5) rfl
                              have hs198 : HS _ _ _ [_, _, _, _, _, [], _, _, _] _ := hs198
                              replace hT := hT.mono hF198
                              replace hc_2 := hc_2.mono hF198
                              replace ho184 := ho184.mono hF198
                              replace ho186 := ho186.mono hF198
                              replace ho44 := ho44.mono hF198
                              replace hr191 := hr191.mono hF198
                              replace lrh15_3_2 := lrh15_3_2.mono hF198
                              replace s181_5 := s181_5.mono hF198
                              obtain ⟨F199, hF199, hs199, hr199, hp199⟩ := OS.frz lrh15_3_2 hs198 (i := 4) rfl
                              have hs199 : HS _ _ _ [_, _, _, _, [], _, _, _, _] _ := hs199
                              replace hT := hT.mono hF199
                              replace hc_2 := hc_2.mono hF199
                              replace ho184 := ho184.mono hF199
                              replace ho186 := ho186.mono hF199
                              replace ho44 := ho44.mono hF199
                              replace hr191 := hr191.mono hF199
                              replace s181_5 := s181_5.mono hF199
                              have hq199 := blkH_rows hr199 (by omega) (fun i hi => SR.mono hF199 (ha198 i hi))
                              have ln199 := SR.len' hq199
                              have hq199N := SR.norm hq199
                              refine wk_ret ⟨.inr rfl, _, (rC rfl (ldVN rfl rfl (HS.hc hs199 (i := 1) rfl) rfl) rN), (⟨c.params, c.regs, (blkZ hv (lv.set ii ((lv.getD ii default).set kk (⟨(⟨((lv.getD ii default).getD kk default).i.op, ((lv.getD ii default).getD kk default).i.a, ((lv.getD ii default).getD kk default).i.b, ((lv.getD ii default).getD kk default).i.c, ((lv.getD ii default).getD kk default).i.n⟩ : InsT), (((lv.getD ii default).getD kk default).args) ++ ([r52 - 2] : List Int)⟩ : VInT))))⟩ : VFnT), lra15_3_2, lrk15_3_2, _, (Fz.le_trans (Fz.le_trans (Fz.le_trans (Fz.le_trans (Fz.le_trans (hF15) hF52) hF54) hF191) hF198) hF199), (HS.forget hs199), (by simp only [ln199]; rfl), (by first | omega | (dsimp only; omega)), (by first | omega | (dsimp only; omega)), hq199N, (by exact Nat.le_trans blkZ_len (by first | omega | (simp; omega))), (by exact fun m hm => blkZ_ok (by first | exact ok_7 (e4 m hm) | exact ok_7 (fun y hy => e4 m hm y (List.mem_of_mem_take hy)) | exact ok_set (e4 m hm) (Nat.le_succ_of_le (ok_arg (ok_getD (e4 m hm)))) | exact ok_set (e4 m hm) (ok_more (ok_arg (ok_getD (e4 m hm))))))⟩
                            · have c179 := c179b
                              try simp only [BS] at c179
                              refine wr 1 [] 172 174 [] [(172, (.bool (r54 == 12)))] trivial (by kernel_rfl) rfl fun gg200 => ?_
                              refine wk_if 0 3 (v := (r54 == 12)) rfl rfl rfl rfl (fun c201b => ?_) (fun c201b => ?_)
                              · have c201 := c201b
                                try simp only [BS] at c201
                                refine wk_region ?_
                                refine wro 8 0 [(1, .o (.slice lra15_3_2 hv.length lrk15_3_2)), (4, .o (.slice lra15_3_2 hv.length lrk15_3_2))] 175 182 [] [(176, (.slice lra15_3_2 hv.length lrk15_3_2)), (182, (.int .i64 (if (if (hv.length : Int) < r52 - 2 then (hv.length : Int) else r52 - 2) > (0 : Int) then (if (hv.length : Int) < r52 - 2 then (hv.length : Int) else r52 - 2) else (0 : Int))))] (vA (ql 22 2 (HS.hc hs54 (i := 3) rfl) rfl rfl) (vA (ql 22 2 (HS.hc hs54 (i := 3) rfl) rfl rfl) trivial)) (by kernel_rfl) rfl fun gg202 => ?_
                                obtain ⟨fq203, hs203, hf203⟩ := SF.shut0 fw44 (Fz.le_trans (hF52) hF54) hs54 (q := 5) (m := 6) (by decide) rfl rfl ho44
                                have hs203 : HS _ _ _ [_, _, _, _, _, fq203, []] _ := hs203
                                have fl203 := FAM.len hf203
                                refine wo_rs (rs_cutOt (α := BlkH) (j := (if (if (hv.length : Int) < r52 - 2 then (hv.length : Int) else r52 - 2) > (0 : Int) then (if (hv.length : Int) < r52 - 2 then (hv.length : Int) else r52 - 2) else (0 : Int)).toNat) lrh15_3_2 hs203 (q := 4) rfl rfl rfl rfl (optN (by first | omega | (dsimp only; omega))) (by first | omega | (dsimp only; omega))) rfl rfl ?_
                                rintro _ _ _ ⟨a204, k204, rfl, hH204, hq204⟩
                                simp only at hH204; replace hH204 := hH204.symm; subst hH204
                                obtain ⟨fq205, fr205, fe205, hf205⟩ := FAM.take ((if (if (hv.length : Int) < r52 - 2 then (hv.length : Int) else r52 - 2) > (0 : Int) then (if (hv.length : Int) < r52 - 2 then (hv.length : Int) else r52 - 2) else (0 : Int)).toNat) hf203
                                have hs205 := HS.open hs203 (i := 5) rfl (List.Perm.of_eq fe205)
                                have hs205 : HS _ _ _ [_, _, _, _, _, fq205, _, fr205] _ := hs205
                                have fl205 := FAM.len hf205
                                refine wro 1 9 [] 184 184 [] [(184, (.pointer (some ⟨b9, 2, none⟩)))] trivial (by kernel_rfl) rfl fun gg206 => ?_
                                refine wo_rk (rs_rec (q := 3) hs205 rfl rfl rfl rfl rfl rfl rfl rfl rfl) rfl ?_
                                rintro _ H207 _ ⟨hs207, _⟩
                                have hs207 : HS _ _ _ [_, _, _, [(b9, .cells [(.int .i64 c.params), (.int .i64 c.regs), (.slice a204 (hv.take ((if (if (hv.length : Int) < r52 - 2 then (hv.length : Int) else r52 - 2) > (0 : Int) then (if (hv.length : Int) < r52 - 2 then (hv.length : Int) else r52 - 2) else (0 : Int)).toNat)).length k204)] none false)], _, _, _, _] _ := hs207
                                refine wo_end 3 rfl ?_
                                refine wk_region ?_
                                refine wro 1 0 [(0, .o (.agg ⟨[(.int .i64 c.params), (.int .i64 c.regs), (.slice a204 (hv.take ((if (if (hv.length : Int) < r52 - 2 then (hv.length : Int) else r52 - 2) > (0 : Int) then (if (hv.length : Int) < r52 - 2 then (hv.length : Int) else r52 - 2) else (0 : Int)).toNat)).length k204)]⟩))] 185 185 [] [(185, (.agg ⟨[(.int .i64 c.params), (.int .i64 c.regs), (.slice a204 (hv.take ((if (if (hv.length : Int) < r52 - 2 then (hv.length : Int) else r52 - 2) > (0 : Int) then (if (hv.length : Int) < r52 - 2 then (hv.length : Int) else r52 - 2) else (0 : Int)).toNat)).length k204)]⟩))] (vA (qn 24 0 3 (HS.hc hs207 (i := 3) rfl) rfl rfl rfl rfl) trivial) (by kernel_rfl) rfl fun gg208 => ?_
                                refine wo_rk (rs_rec (q := 1) hs207 rfl rfl rfl rfl rfl rfl rfl rfl rfl) rfl ?_
                                rintro _ H209 _ ⟨hs209, _⟩
                                have hs209 : HS _ _ _ [_, [(b3, .cells [(.int .i64 c.params), (.int .i64 c.regs), (.slice a204 (hv.take ((if (if (hv.length : Int) < r52 - 2 then (hv.length : Int) else r52 - 2) > (0 : Int) then (if (hv.length : Int) < r52 - 2 then (hv.length : Int) else r52 - 2) else (0 : Int)).toNat)).length k204)] none false)], _, _, _, _, _, _] _ := hs209
                                refine wo_end 1 rfl ?_
                                obtain ⟨F210, hF210, hs210, ha210⟩ := SF.freeze hf205 hs209 (q := 5) rfl
                                have hs210 : HS _ _ _ [_, _, _, _, _, [], _, _] _ := hs210
                                replace hT := hT.mono hF210
                                replace hc_2 := hc_2.mono hF210
                                replace ho44 := ho44.mono hF210
                                replace hq204 := hq204.mono hF210
                                replace lrh15_3_2 := lrh15_3_2.mono hF210
                                obtain ⟨F211, hF211, hs211, hr211, hp211⟩ := OS.frz hq204 hs210 (i := 4) rfl
                                have hs211 : HS _ _ _ [_, _, _, _, [], _, _, _] _ := hs211
                                replace hT := hT.mono hF211
                                replace hc_2 := hc_2.mono hF211
                                replace ho44 := ho44.mono hF211
                                replace lrh15_3_2 := lrh15_3_2.mono hF211
                                have hq211 := blkH_rows hr211 (by omega) (fun i hi => SR.mono hF211 (ha210 i hi))
                                have ln211 := SR.len' hq211
                                have hq211N := SR.norm hq211
                                refine wk_ret ⟨.inr rfl, _, (rC rfl (ldVN rfl rfl (HS.hc hs211 (i := 1) rfl) rfl) rN), (⟨c.params, c.regs, (blkZ (hv.take ((if (if (hv.length : Int) < r52 - 2 then (hv.length : Int) else r52 - 2) > (0 : Int) then (if (hv.length : Int) < r52 - 2 then (hv.length : Int) else r52 - 2) else (0 : Int)).toNat)) (lv.take ((if (if (hv.length : Int) < r52 - 2 then (hv.length : Int) else r52 - 2) > (0 : Int) then (if (hv.length : Int) < r52 - 2 then (hv.length : Int) else r52 - 2) else (0 : Int)).toNat)))⟩ : VFnT), a204, k204, _, (Fz.le_trans (Fz.le_trans (Fz.le_trans (Fz.le_trans (hF15) hF52) hF54) hF210) hF211), (HS.forget hs211), (by simp only [ln211]; rfl), (by first | omega | (dsimp only; omega)), (by first | omega | (dsimp only; omega)), hq211N, (by exact Nat.le_trans blkZ_len (by first | omega | (simp; omega))), (by exact fun m hm => blkZ_ok (by first | exact ok_7 (e4 m hm) | exact ok_7 (fun y hy => e4 m hm y (List.mem_of_mem_take hy)) | exact ok_set (e4 m hm) (Nat.le_succ_of_le (ok_arg (ok_getD (e4 m hm)))) | exact ok_set (e4 m hm) (ok_more (ok_arg (ok_getD (e4 m hm))))))⟩
                              · have c201 := c201b
                                try simp only [BS] at c201
                                refine wk_region ?_
                                refine wro 1 0 [(0, .o (.agg ⟨[(.int .i64 c.params), (.int .i64 c.regs), (.slice lra15_3_2 hv.length lrk15_3_2)]⟩))] 185 185 [] [(185, (.agg ⟨[(.int .i64 c.params), (.int .i64 c.regs), (.slice lra15_3_2 hv.length lrk15_3_2)]⟩))] (vA (qn 24 0 3 (HS.hc hs54 (i := 3) rfl) rfl rfl rfl rfl) trivial) (by kernel_rfl) rfl fun gg212 => ?_
                                refine wo_rk (rs_rec (q := 1) hs54 rfl rfl rfl rfl rfl rfl rfl rfl rfl) rfl ?_
                                rintro _ H213 _ ⟨hs213, _⟩
                                have hs213 : HS _ _ _ [_, [(b3, .cells [(.int .i64 c.params), (.int .i64 c.regs), (.slice lra15_3_2 hv.length lrk15_3_2)] none false)], _, _, _, _, _] _ := hs213
                                refine wo_end 1 rfl ?_
                                obtain ⟨fq214, hs214, hf214⟩ := SF.shut0 fw44 (Fz.le_trans (hF52) hF54) hs213 (q := 5) (m := 6) (by decide) rfl rfl ho44
                                have hs214 : HS _ _ _ [_, _, _, _, _, fq214, []] _ := hs214
                                have fl214 := FAM.len hf214
                                obtain ⟨F215, hF215, hs215, ha215⟩ := SF.freeze hf214 hs214 (q := 5) rfl
                                have hs215 : HS _ _ _ [_, _, _, _, _, [], _] _ := hs215
                                replace hT := hT.mono hF215
                                replace hc_2 := hc_2.mono hF215
                                replace ho44 := ho44.mono hF215
                                replace lrh15_3_2 := lrh15_3_2.mono hF215
                                obtain ⟨F216, hF216, hs216, hr216, hp216⟩ := OS.frz lrh15_3_2 hs215 (i := 4) rfl
                                have hs216 : HS _ _ _ [_, _, _, _, [], _, _] _ := hs216
                                replace hT := hT.mono hF216
                                replace hc_2 := hc_2.mono hF216
                                replace ho44 := ho44.mono hF216
                                have hq216 := blkH_rows hr216 (by omega) (fun i hi => SR.mono hF216 (ha215 i hi))
                                have ln216 := SR.len' hq216
                                have hq216N := SR.norm hq216
                                refine wk_ret ⟨.inr rfl, _, (rC rfl (ldVN rfl rfl (HS.hc hs216 (i := 1) rfl) rfl) rN), (⟨c.params, c.regs, (blkZ hv lv)⟩ : VFnT), lra15_3_2, lrk15_3_2, _, (Fz.le_trans (Fz.le_trans (Fz.le_trans (Fz.le_trans (hF15) hF52) hF54) hF215) hF216), (HS.forget hs216), (by simp only [ln216]; rfl), (by first | omega | (dsimp only; omega)), (by first | omega | (dsimp only; omega)), hq216N, (by exact Nat.le_trans blkZ_len (by first | omega | (simp; omega))), (by exact fun m hm => blkZ_ok (by first | exact ok_7 (e4 m hm) | exact ok_7 (fun y hy => e4 m hm y (List.mem_of_mem_take hy)) | exact ok_set (e4 m hm) (Nat.le_succ_of_le (ok_arg (ok_getD (e4 m hm)))) | exact ok_set (e4 m hm) (ok_more (ok_arg (ok_getD (e4 m hm))))))⟩
    · have c46 := c46b
      try simp only [BS] at c46
      refine wk_region ?_
      refine wro 1 0 [] 72 72 [] [(72, (.agg ⟨[(.int .i64 0), (.int .i64 0), (.int .i64 0), (.int .i64 0), (.int .i64 0), (.slice none 0 0)]⟩))] trivial (by kernel_rfl) rfl fun gg217 => ?_
      refine wo_rs (rs_box hs44 rfl rfl) rfl rfl ?_
      rintro _ H219 _ ⟨b218, rfl, hs219, _⟩
      have hs219 : HS _ _ _ [_, _, _, _, _, _, _, [(b218, .cells [(.int .i64 0), (.int .i64 0), (.int .i64 0), (.int .i64 0), (.int .i64 0), (.slice none 0 0)] none false)]] _ := hs219
      refine wa (.pointer (some ⟨b218, 0, none⟩)) rfl rfl rfl ?_
      refine wo_end 2 rfl ?_
      refine wk_region ?_
      refine wm (.pointer (some ⟨b6, 0, none⟩)) rfl rfl rfl ?_
      refine wo_call (ap_call rfl rfl rfl) rfl rfl (m4.next_c ex (⟨how⟩ : DigT) (40) (HS.callOwn hs219 (i := 2) rfl) (by first | omega | (dsimp only; omega)) (by first | omega | (dsimp only; omega)) hT (by first | omega | (dsimp only; omega))) ?_
      rintro _ H220 ⟨r220, dm220, F220, hF220, hs220, rfl, gm220_0, h220⟩
      replace hs220 := HS.backOwn hs219 (i := 2) rfl rfl (fun _ hb => hb) hs220
      have hs220 : HS _ _ _ [_, _, [(b6, .cells [(.int .i64 dm220.n)] none false)], _, _, _, _, _] _ := hs220
      replace hT := hT.mono hF220
      replace hc_2 := hc_2.mono hF220
      replace ho44 := ho44.mono hF220
      replace lrh15_3_2 := lrh15_3_2.mono hF220
      refine wro 2 2 [] 76 76 [13] [(13, (.int .i64 (r220 - 2)))] (vA (vi (n := r220 - 2) (by first | omega | (dsimp only; omega))) trivial) (by kernel_rfl) rfl fun gg221 => ?_
      refine wo_end 3 rfl ?_
      refine wk_region ?_
      refine wm (.pointer (some ⟨b6, 0, none⟩)) rfl rfl rfl ?_
      refine wo_call (ap_call rfl rfl rfl) rfl rfl (m4.next_c ex (⟨dm220.n⟩ : DigT) (14) (HS.callOwn hs220 (i := 2) rfl) (by first | omega | (dsimp only; omega)) (by first | omega | (dsimp only; omega)) hT (by first | omega | (dsimp only; omega))) ?_
      rintro _ H222 ⟨r222, dm222, F222, hF222, hs222, rfl, gm222_0, h222⟩
      replace hs222 := HS.backOwn hs220 (i := 2) rfl rfl (fun _ hb => hb) hs222
      have hs222 : HS _ _ _ [_, _, [(b6, .cells [(.int .i64 dm222.n)] none false)], _, _, _, _, _] _ := hs222
      replace hT := hT.mono hF222
      replace hc_2 := hc_2.mono hF222
      replace ho44 := ho44.mono hF222
      replace lrh15_3_2 := lrh15_3_2.mono hF222
      refine wa (.int .i64 r222) rfl rfl rfl ?_
      refine wo_end 3 rfl ?_
      refine wr 1 [] 79 81 [] [(79, (.bool (r222 == 0)))] trivial (by kernel_rfl) rfl fun gg223 => ?_
      refine wk_if 0 1 (v := (r222 == 0)) rfl rfl rfl rfl (fun c224b => ?_) (fun c224b => ?_)
      · have c224 := c224b
        try simp only [BS] at c224
        refine wk_region ?_
        refine wro 2 0 [] 82 83 [] [(82, (.int .i64 (r220 - 2))), (83, (.pointer (some ⟨b9, 0, none⟩)))] trivial (by kernel_rfl) rfl fun gg225 => ?_
        refine wo_rk (rs_rec (q := 3) hs222 rfl rfl rfl rfl rfl rfl rfl rfl rfl) rfl ?_
        rintro _ H226 _ ⟨hs226, _⟩
        have hs226 : HS _ _ _ [_, _, _, [(b9, .cells [(.int .i64 (r220 - 2)), (.int .i64 c.regs), (.slice lra15_3_2 hv.length lrk15_3_2)] none false)], _, _, _, _] _ := hs226
        refine wo_end 3 rfl ?_
        refine wk_region ?_
        refine wro 1 0 [(0, .o (.agg ⟨[(.int .i64 (r220 - 2)), (.int .i64 c.regs), (.slice lra15_3_2 hv.length lrk15_3_2)]⟩))] 185 185 [] [(185, (.agg ⟨[(.int .i64 (r220 - 2)), (.int .i64 c.regs), (.slice lra15_3_2 hv.length lrk15_3_2)]⟩))] (vA (qn 24 0 3 (HS.hc hs226 (i := 3) rfl) rfl rfl rfl rfl) trivial) (by kernel_rfl) rfl fun gg227 => ?_
        refine wo_rk (rs_rec (q := 1) hs226 rfl rfl rfl rfl rfl rfl rfl rfl rfl) rfl ?_
        rintro _ H228 _ ⟨hs228, _⟩
        have hs228 : HS _ _ _ [_, [(b3, .cells [(.int .i64 (r220 - 2)), (.int .i64 c.regs), (.slice lra15_3_2 hv.length lrk15_3_2)] none false)], _, _, _, _, _, _] _ := hs228
        refine wo_end 1 rfl ?_
        obtain ⟨fq229, hs229, hf229⟩ := SF.shut0 fw44 (Fz.le_trans (hF220) hF222) hs228 (q := 5) (m := 6) (by decide) rfl rfl ho44
        have hs229 : HS _ _ _ [_, _, _, _, _, fq229, [], _] _ := hs229
        have fl229 := FAM.len hf229
        obtain ⟨F230, hF230, hs230, ha230⟩ := SF.freeze hf229 hs229 (q := 5) rfl
        have hs230 : HS _ _ _ [_, _, _, _, _, [], _, _] _ := hs230
        replace hT := hT.mono hF230
        replace hc_2 := hc_2.mono hF230
        replace lrh15_3_2 := lrh15_3_2.mono hF230
        obtain ⟨F231, hF231, hs231, hr231, hp231⟩ := OS.frz lrh15_3_2 hs230 (i := 4) rfl
        have hs231 : HS _ _ _ [_, _, _, _, [], _, _, _] _ := hs231
        replace hT := hT.mono hF231
        replace hc_2 := hc_2.mono hF231
        have hq231 := blkH_rows hr231 (by omega) (fun i hi => SR.mono hF231 (ha230 i hi))
        have ln231 := SR.len' hq231
        have hq231N := SR.norm hq231
        refine wk_ret ⟨.inr rfl, _, (rC rfl (ldVN rfl rfl (HS.hc hs231 (i := 1) rfl) rfl) rN), (⟨r220 - 2, c.regs, (blkZ hv lv)⟩ : VFnT), lra15_3_2, lrk15_3_2, _, (Fz.le_trans (Fz.le_trans (Fz.le_trans (Fz.le_trans (hF15) hF220) hF222) hF230) hF231), (HS.forget hs231), (by simp only [ln231]; rfl), (by first | omega | (dsimp only; omega)), (by first | omega | (dsimp only; omega)), hq231N, (by exact Nat.le_trans blkZ_len (by first | omega | (simp; omega))), (by exact fun m hm => blkZ_ok (by first | exact ok_7 (e4 m hm) | exact ok_7 (fun y hy => e4 m hm y (List.mem_of_mem_take hy)) | exact ok_set (e4 m hm) (Nat.le_succ_of_le (ok_arg (ok_getD (e4 m hm)))) | exact ok_set (e4 m hm) (ok_more (ok_arg (ok_getD (e4 m hm))))))⟩
      · have c224 := c224b
        try simp only [BS] at c224
        refine wr 1 [] 84 86 [] [(84, (.bool (r222 == 1)))] trivial (by kernel_rfl) rfl fun gg232 => ?_
        refine wk_if 0 1 (v := (r222 == 1)) rfl rfl rfl rfl (fun c233b => ?_) (fun c233b => ?_)
        · have c233 := c233b
          try simp only [BS] at c233
          refine wk_region ?_
          refine wro 2 0 [] 87 88 [] [(87, (.int .i64 (r220 - 2))), (88, (.pointer (some ⟨b9, 1, none⟩)))] trivial (by kernel_rfl) rfl fun gg234 => ?_
          refine wo_rk (rs_rec (q := 3) hs222 rfl rfl rfl rfl rfl rfl rfl rfl rfl) rfl ?_
          rintro _ H235 _ ⟨hs235, _⟩
          have hs235 : HS _ _ _ [_, _, _, [(b9, .cells [(.int .i64 c.params), (.int .i64 (r220 - 2)), (.slice lra15_3_2 hv.length lrk15_3_2)] none false)], _, _, _, _] _ := hs235
          refine wo_end 3 rfl ?_
          refine wk_region ?_
          refine wro 1 0 [(0, .o (.agg ⟨[(.int .i64 c.params), (.int .i64 (r220 - 2)), (.slice lra15_3_2 hv.length lrk15_3_2)]⟩))] 185 185 [] [(185, (.agg ⟨[(.int .i64 c.params), (.int .i64 (r220 - 2)), (.slice lra15_3_2 hv.length lrk15_3_2)]⟩))] (vA (qn 24 0 3 (HS.hc hs235 (i := 3) rfl) rfl rfl rfl rfl) trivial) (by kernel_rfl) rfl fun gg236 => ?_
          refine wo_rk (rs_rec (q := 1) hs235 rfl rfl rfl rfl rfl rfl rfl rfl rfl) rfl ?_
          rintro _ H237 _ ⟨hs237, _⟩
          have hs237 : HS _ _ _ [_, [(b3, .cells [(.int .i64 c.params), (.int .i64 (r220 - 2)), (.slice lra15_3_2 hv.length lrk15_3_2)] none false)], _, _, _, _, _, _] _ := hs237
          refine wo_end 1 rfl ?_
          obtain ⟨fq238, hs238, hf238⟩ := SF.shut0 fw44 (Fz.le_trans (hF220) hF222) hs237 (q := 5) (m := 6) (by decide) rfl rfl ho44
          have hs238 : HS _ _ _ [_, _, _, _, _, fq238, [], _] _ := hs238
          have fl238 := FAM.len hf238
          obtain ⟨F239, hF239, hs239, ha239⟩ := SF.freeze hf238 hs238 (q := 5) rfl
          have hs239 : HS _ _ _ [_, _, _, _, _, [], _, _] _ := hs239
          replace hT := hT.mono hF239
          replace hc_2 := hc_2.mono hF239
          replace lrh15_3_2 := lrh15_3_2.mono hF239
          obtain ⟨F240, hF240, hs240, hr240, hp240⟩ := OS.frz lrh15_3_2 hs239 (i := 4) rfl
          have hs240 : HS _ _ _ [_, _, _, _, [], _, _, _] _ := hs240
          replace hT := hT.mono hF240
          replace hc_2 := hc_2.mono hF240
          have hq240 := blkH_rows hr240 (by omega) (fun i hi => SR.mono hF240 (ha239 i hi))
          have ln240 := SR.len' hq240
          have hq240N := SR.norm hq240
          refine wk_ret ⟨.inr rfl, _, (rC rfl (ldVN rfl rfl (HS.hc hs240 (i := 1) rfl) rfl) rN), (⟨c.params, r220 - 2, (blkZ hv lv)⟩ : VFnT), lra15_3_2, lrk15_3_2, _, (Fz.le_trans (Fz.le_trans (Fz.le_trans (Fz.le_trans (hF15) hF220) hF222) hF239) hF240), (HS.forget hs240), (by simp only [ln240]; rfl), (by first | omega | (dsimp only; omega)), (by first | omega | (dsimp only; omega)), hq240N, (by exact Nat.le_trans blkZ_len (by first | omega | (simp; omega))), (by exact fun m hm => blkZ_ok (by first | exact ok_7 (e4 m hm) | exact ok_7 (fun y hy => e4 m hm y (List.mem_of_mem_take hy)) | exact ok_set (e4 m hm) (Nat.le_succ_of_le (ok_arg (ok_getD (e4 m hm)))) | exact ok_set (e4 m hm) (ok_more (ok_arg (ok_getD (e4 m hm))))))⟩
        · have c233 := c233b
          try simp only [BS] at c233
          refine wr 1 [] 89 91 [] [(89, (.bool (r222 == 2)))] trivial (by kernel_rfl) rfl fun gg241 => ?_
          refine wk_if 0 1 (v := (r222 == 2)) rfl rfl rfl rfl (fun c242b => ?_) (fun c242b => ?_)
          · have c242 := c242b
            try simp only [BS] at c242
            refine wk_region ?_
            refine wro 4 0 [] 92 95 [] [(93, (.int .i64 (r220 - 2))), (95, (.pointer (some ⟨sB (.slice lra15_3_2 hv.length lrk15_3_2), sO (.slice lra15_3_2 hv.length lrk15_3_2) + ii * Rp.sz BlkH + 1, none⟩)))] trivial (by kernel_rfl) rfl fun gg243 => ?_
            obtain ⟨fq244, hs244, hf244⟩ := SF.shut0 fw44 (Fz.le_trans (hF220) hF222) hs222 (q := 5) (m := 6) (by decide) rfl rfl ho44
            have hs244 : HS _ _ _ [_, _, _, _, _, fq244, [], _] _ := hs244
            have fl244 := FAM.len hf244
            have hf245 := SF.put (⟨(hv.getD ii default).h, r220 - 2, (hv.getD ii default).reg, (hv.getD ii default).tgt, (hv.getD ii default).els⟩ : BlkH) hf244 (i := ii) rfl
            refine wo_rk (rs_st (α := BlkH) (j := ii) (off := 1) (q := 4) (⟨(hv.getD ii default).h, r220 - 2, (hv.getD ii default).reg, (hv.getD ii default).tgt, (hv.getD ii default).els⟩ : BlkH) lrh15_3_2 hs244 rfl rfl rfl rfl rfl rfl rfl rfl (getD_at (x := default) (by first | omega | (dsimp only; omega))) rfl (by rintro cs ⟨rfl, qg1, qg2, qg3, qg4⟩; exact ⟨Nat.le_of_ble_eq_true rfl, ⟨rfl, by first | omega | (dsimp only; omega), qg2, qg3, qg4⟩⟩)) rfl ?_
            rintro _ H248 p246 ⟨ho247, hs248, _⟩
            have hs248 : HS _ _ _ [_, _, _, _, p246, _, _, _] _ := hs248
            have hnp246 := OS.len' ho247
            refine wo_end 3 rfl ?_
            refine wk_region ?_
            refine wro 1 0 [(0, .o (.agg ⟨[(.int .i64 c.params), (.int .i64 c.regs), (.slice lra15_3_2 hv.length lrk15_3_2)]⟩))] 185 185 [] [(185, (.agg ⟨[(.int .i64 c.params), (.int .i64 c.regs), (.slice lra15_3_2 hv.length lrk15_3_2)]⟩))] (vA (qn 24 0 3 (HS.hc hs248 (i := 3) rfl) rfl rfl rfl rfl) trivial) (by kernel_rfl) rfl fun gg249 => ?_
            refine wo_rk (rs_rec (q := 1) hs248 rfl rfl rfl rfl rfl rfl rfl rfl rfl) rfl ?_
            rintro _ H250 _ ⟨hs250, _⟩
            have hs250 : HS _ _ _ [_, [(b3, .cells [(.int .i64 c.params), (.int .i64 c.regs), (.slice lra15_3_2 hv.length lrk15_3_2)] none false)], _, _, _, _, _, _] _ := hs250
            refine wo_end 1 rfl ?_
            obtain ⟨F251, hF251, hs251, ha251⟩ := SF.freeze hf245 hs250 (q := 5) rfl
            have hs251 : HS _ _ _ [_, _, _, _, _, [], _, _] _ := hs251
            replace hT := hT.mono hF251
            replace hc_2 := hc_2.mono hF251
            replace ho247 := ho247.mono hF251
            replace lrh15_3_2 := lrh15_3_2.mono hF251
            obtain ⟨F252, hF252, hs252, hr252, hp252⟩ := OS.frz ho247 hs251 (i := 4) rfl
            have hs252 : HS _ _ _ [_, _, _, _, [], _, _, _] _ := hs252
            replace hT := hT.mono hF252
            replace hc_2 := hc_2.mono hF252
            replace lrh15_3_2 := lrh15_3_2.mono hF252
            have hq252 := blkH_rows hr252 (by omega) (fun i hi => SR.mono hF252 (ha251 i hi))
            have ln252 := SR.len' hq252
            have hq252N := SR.norm hq252
            refine wk_ret ⟨.inr rfl, _, (rC rfl (ldVN rfl rfl (HS.hc hs252 (i := 1) rfl) rfl) rN), (⟨c.params, c.regs, (blkZ (hv.set ii (⟨(hv.getD ii default).h, r220 - 2, (hv.getD ii default).reg, (hv.getD ii default).tgt, (hv.getD ii default).els⟩ : BlkH)) lv)⟩ : VFnT), lra15_3_2, lrk15_3_2, _, (Fz.le_trans (Fz.le_trans (Fz.le_trans (Fz.le_trans (hF15) hF220) hF222) hF251) hF252), (HS.forget hs252), (by simp only [ln252]; rfl), (by first | omega | (dsimp only; omega)), (by first | omega | (dsimp only; omega)), hq252N, (by exact Nat.le_trans blkZ_len (by first | omega | (simp; omega))), (by exact fun m hm => blkZ_ok (by first | exact ok_7 (e4 m hm) | exact ok_7 (fun y hy => e4 m hm y (List.mem_of_mem_take hy)) | exact ok_set (e4 m hm) (Nat.le_succ_of_le (ok_arg (ok_getD (e4 m hm)))) | exact ok_set (e4 m hm) (ok_more (ok_arg (ok_getD (e4 m hm))))))⟩
          · have c242 := c242b
            try simp only [BS] at c242
            refine wr 1 [] 96 98 [] [(96, (.bool (r222 == 3)))] trivial (by kernel_rfl) rfl fun gg253 => ?_
            refine wk_if 0 1 (v := (r222 == 3)) rfl rfl rfl rfl (fun c254b => ?_) (fun c254b => ?_)
            · have c254 := c254b
              try simp only [BS] at c254
              refine wk_region ?_
              refine wro 4 0 [] 99 102 [] [(100, (.int .i64 (r220 - 2))), (102, (.pointer (some ⟨sB (.slice lra15_3_2 hv.length lrk15_3_2), sO (.slice lra15_3_2 hv.length lrk15_3_2) + ii * Rp.sz BlkH + 2, none⟩)))] trivial (by kernel_rfl) rfl fun gg255 => ?_
              obtain ⟨fq256, hs256, hf256⟩ := SF.shut0 fw44 (Fz.le_trans (hF220) hF222) hs222 (q := 5) (m := 6) (by decide) rfl rfl ho44
              have hs256 : HS _ _ _ [_, _, _, _, _, fq256, [], _] _ := hs256
              have fl256 := FAM.len hf256
              have hf257 := SF.put (⟨(hv.getD ii default).h, (hv.getD ii default).fin, r220 - 2, (hv.getD ii default).tgt, (hv.getD ii default).els⟩ : BlkH) hf256 (i := ii) rfl
              refine wo_rk (rs_st (α := BlkH) (j := ii) (off := 2) (q := 4) (⟨(hv.getD ii default).h, (hv.getD ii default).fin, r220 - 2, (hv.getD ii default).tgt, (hv.getD ii default).els⟩ : BlkH) lrh15_3_2 hs256 rfl rfl rfl rfl rfl rfl rfl rfl (getD_at (x := default) (by first | omega | (dsimp only; omega))) rfl (by rintro cs ⟨rfl, qg1, qg2, qg3, qg4⟩; exact ⟨Nat.le_of_ble_eq_true rfl, ⟨rfl, qg1, by first | omega | (dsimp only; omega), qg3, qg4⟩⟩)) rfl ?_
              rintro _ H260 p258 ⟨ho259, hs260, _⟩
              have hs260 : HS _ _ _ [_, _, _, _, p258, _, _, _] _ := hs260
              have hnp258 := OS.len' ho259
              refine wo_end 3 rfl ?_
              refine wk_region ?_
              refine wro 1 0 [(0, .o (.agg ⟨[(.int .i64 c.params), (.int .i64 c.regs), (.slice lra15_3_2 hv.length lrk15_3_2)]⟩))] 185 185 [] [(185, (.agg ⟨[(.int .i64 c.params), (.int .i64 c.regs), (.slice lra15_3_2 hv.length lrk15_3_2)]⟩))] (vA (qn 24 0 3 (HS.hc hs260 (i := 3) rfl) rfl rfl rfl rfl) trivial) (by kernel_rfl) rfl fun gg261 => ?_
              refine wo_rk (rs_rec (q := 1) hs260 rfl rfl rfl rfl rfl rfl rfl rfl rfl) rfl ?_
              rintro _ H262 _ ⟨hs262, _⟩
              have hs262 : HS _ _ _ [_, [(b3, .cells [(.int .i64 c.params), (.int .i64 c.regs), (.slice lra15_3_2 hv.length lrk15_3_2)] none false)], _, _, _, _, _, _] _ := hs262
              refine wo_end 1 rfl ?_
              obtain ⟨F263, hF263, hs263, ha263⟩ := SF.freeze hf257 hs262 (q := 5) rfl
              have hs263 : HS _ _ _ [_, _, _, _, _, [], _, _] _ := hs263
              replace hT := hT.mono hF263
              replace hc_2 := hc_2.mono hF263
              replace ho259 := ho259.mono hF263
              replace lrh15_3_2 := lrh15_3_2.mono hF263
              obtain ⟨F264, hF264, hs264, hr264, hp264⟩ := OS.frz ho259 hs263 (i := 4) rfl
              have hs264 : HS _ _ _ [_, _, _, _, [], _, _, _] _ := hs264
              replace hT := hT.mono hF264
              replace hc_2 := hc_2.mono hF264
              replace lrh15_3_2 := lrh15_3_2.mono hF264
              have hq264 := blkH_rows hr264 (by omega) (fun i hi => SR.mono hF264 (ha263 i hi))
              have ln264 := SR.len' hq264
              have hq264N := SR.norm hq264
              refine wk_ret ⟨.inr rfl, _, (rC rfl (ldVN rfl rfl (HS.hc hs264 (i := 1) rfl) rfl) rN), (⟨c.params, c.regs, (blkZ (hv.set ii (⟨(hv.getD ii default).h, (hv.getD ii default).fin, r220 - 2, (hv.getD ii default).tgt, (hv.getD ii default).els⟩ : BlkH)) lv)⟩ : VFnT), lra15_3_2, lrk15_3_2, _, (Fz.le_trans (Fz.le_trans (Fz.le_trans (Fz.le_trans (hF15) hF220) hF222) hF263) hF264), (HS.forget hs264), (by simp only [ln264]; rfl), (by first | omega | (dsimp only; omega)), (by first | omega | (dsimp only; omega)), hq264N, (by exact Nat.le_trans blkZ_len (by first | omega | (simp; omega))), (by exact fun m hm => blkZ_ok (by first | exact ok_7 (e4 m hm) | exact ok_7 (fun y hy => e4 m hm y (List.mem_of_mem_take hy)) | exact ok_set (e4 m hm) (Nat.le_succ_of_le (ok_arg (ok_getD (e4 m hm)))) | exact ok_set (e4 m hm) (ok_more (ok_arg (ok_getD (e4 m hm))))))⟩
            · have c254 := c254b
              try simp only [BS] at c254
              refine wr 1 [] 103 105 [] [(103, (.bool (r222 == 4)))] trivial (by kernel_rfl) rfl fun gg265 => ?_
              refine wk_if 0 1 (v := (r222 == 4)) rfl rfl rfl rfl (fun c266b => ?_) (fun c266b => ?_)
              · have c266 := c266b
                try simp only [BS] at c266
                refine wk_region ?_
                refine wro 4 0 [] 106 109 [] [(107, (.int .i64 (r220 - 2))), (109, (.pointer (some ⟨sB (.slice lra15_3_2 hv.length lrk15_3_2), sO (.slice lra15_3_2 hv.length lrk15_3_2) + ii * Rp.sz BlkH + 3, none⟩)))] trivial (by kernel_rfl) rfl fun gg267 => ?_
                obtain ⟨fq268, hs268, hf268⟩ := SF.shut0 fw44 (Fz.le_trans (hF220) hF222) hs222 (q := 5) (m := 6) (by decide) rfl rfl ho44
                have hs268 : HS _ _ _ [_, _, _, _, _, fq268, [], _] _ := hs268
                have fl268 := FAM.len hf268
                have hf269 := SF.put (⟨(hv.getD ii default).h, (hv.getD ii default).fin, (hv.getD ii default).reg, r220 - 2, (hv.getD ii default).els⟩ : BlkH) hf268 (i := ii) rfl
                refine wo_rk (rs_st (α := BlkH) (j := ii) (off := 3) (q := 4) (⟨(hv.getD ii default).h, (hv.getD ii default).fin, (hv.getD ii default).reg, r220 - 2, (hv.getD ii default).els⟩ : BlkH) lrh15_3_2 hs268 rfl rfl rfl rfl rfl rfl rfl rfl (getD_at (x := default) (by first | omega | (dsimp only; omega))) rfl (by rintro cs ⟨rfl, qg1, qg2, qg3, qg4⟩; exact ⟨Nat.le_of_ble_eq_true rfl, ⟨rfl, qg1, qg2, by first | omega | (dsimp only; omega), qg4⟩⟩)) rfl ?_
                rintro _ H272 p270 ⟨ho271, hs272, _⟩
                have hs272 : HS _ _ _ [_, _, _, _, p270, _, _, _] _ := hs272
                have hnp270 := OS.len' ho271
                refine wo_end 3 rfl ?_
                refine wk_region ?_
                refine wro 1 0 [(0, .o (.agg ⟨[(.int .i64 c.params), (.int .i64 c.regs), (.slice lra15_3_2 hv.length lrk15_3_2)]⟩))] 185 185 [] [(185, (.agg ⟨[(.int .i64 c.params), (.int .i64 c.regs), (.slice lra15_3_2 hv.length lrk15_3_2)]⟩))] (vA (qn 24 0 3 (HS.hc hs272 (i := 3) rfl) rfl rfl rfl rfl) trivial) (by kernel_rfl) rfl fun gg273 => ?_
                refine wo_rk (rs_rec (q := 1) hs272 rfl rfl rfl rfl rfl rfl rfl rfl rfl) rfl ?_
                rintro _ H274 _ ⟨hs274, _⟩
                have hs274 : HS _ _ _ [_, [(b3, .cells [(.int .i64 c.params), (.int .i64 c.regs), (.slice lra15_3_2 hv.length lrk15_3_2)] none false)], _, _, _, _, _, _] _ := hs274
                refine wo_end 1 rfl ?_
                obtain ⟨F275, hF275, hs275, ha275⟩ := SF.freeze hf269 hs274 (q := 5) rfl
                have hs275 : HS _ _ _ [_, _, _, _, _, [], _, _] _ := hs275
                replace hT := hT.mono hF275
                replace hc_2 := hc_2.mono hF275
                replace ho271 := ho271.mono hF275
                replace lrh15_3_2 := lrh15_3_2.mono hF275
                obtain ⟨F276, hF276, hs276, hr276, hp276⟩ := OS.frz ho271 hs275 (i := 4) rfl
                have hs276 : HS _ _ _ [_, _, _, _, [], _, _, _] _ := hs276
                replace hT := hT.mono hF276
                replace hc_2 := hc_2.mono hF276
                replace lrh15_3_2 := lrh15_3_2.mono hF276
                have hq276 := blkH_rows hr276 (by omega) (fun i hi => SR.mono hF276 (ha275 i hi))
                have ln276 := SR.len' hq276
                have hq276N := SR.norm hq276
                refine wk_ret ⟨.inr rfl, _, (rC rfl (ldVN rfl rfl (HS.hc hs276 (i := 1) rfl) rfl) rN), (⟨c.params, c.regs, (blkZ (hv.set ii (⟨(hv.getD ii default).h, (hv.getD ii default).fin, (hv.getD ii default).reg, r220 - 2, (hv.getD ii default).els⟩ : BlkH)) lv)⟩ : VFnT), lra15_3_2, lrk15_3_2, _, (Fz.le_trans (Fz.le_trans (Fz.le_trans (Fz.le_trans (hF15) hF220) hF222) hF275) hF276), (HS.forget hs276), (by simp only [ln276]; rfl), (by first | omega | (dsimp only; omega)), (by first | omega | (dsimp only; omega)), hq276N, (by exact Nat.le_trans blkZ_len (by first | omega | (simp; omega))), (by exact fun m hm => blkZ_ok (by first | exact ok_7 (e4 m hm) | exact ok_7 (fun y hy => e4 m hm y (List.mem_of_mem_take hy)) | exact ok_set (e4 m hm) (Nat.le_succ_of_le (ok_arg (ok_getD (e4 m hm)))) | exact ok_set (e4 m hm) (ok_more (ok_arg (ok_getD (e4 m hm))))))⟩
              · have c266 := c266b
                try simp only [BS] at c266
                refine wr 1 [] 110 112 [] [(110, (.bool (r222 == 5)))] trivial (by kernel_rfl) rfl fun gg277 => ?_
                refine wk_if 0 1 (v := (r222 == 5)) rfl rfl rfl rfl (fun c278b => ?_) (fun c278b => ?_)
                · have c278 := c278b
                  try simp only [BS] at c278
                  refine wk_region ?_
                  refine wro 4 0 [] 113 116 [] [(114, (.int .i64 (r220 - 2))), (116, (.pointer (some ⟨sB (.slice lra15_3_2 hv.length lrk15_3_2), sO (.slice lra15_3_2 hv.length lrk15_3_2) + ii * Rp.sz BlkH + 4, none⟩)))] trivial (by kernel_rfl) rfl fun gg279 => ?_
                  obtain ⟨fq280, hs280, hf280⟩ := SF.shut0 fw44 (Fz.le_trans (hF220) hF222) hs222 (q := 5) (m := 6) (by decide) rfl rfl ho44
                  have hs280 : HS _ _ _ [_, _, _, _, _, fq280, [], _] _ := hs280
                  have fl280 := FAM.len hf280
                  have hf281 := SF.put (⟨(hv.getD ii default).h, (hv.getD ii default).fin, (hv.getD ii default).reg, (hv.getD ii default).tgt, r220 - 2⟩ : BlkH) hf280 (i := ii) rfl
                  refine wo_rk (rs_st (α := BlkH) (j := ii) (off := 4) (q := 4) (⟨(hv.getD ii default).h, (hv.getD ii default).fin, (hv.getD ii default).reg, (hv.getD ii default).tgt, r220 - 2⟩ : BlkH) lrh15_3_2 hs280 rfl rfl rfl rfl rfl rfl rfl rfl (getD_at (x := default) (by first | omega | (dsimp only; omega))) rfl (by rintro cs ⟨rfl, qg1, qg2, qg3, qg4⟩; exact ⟨Nat.le_of_ble_eq_true rfl, ⟨rfl, qg1, qg2, qg3, by first | omega | (dsimp only; omega)⟩⟩)) rfl ?_
                  rintro _ H284 p282 ⟨ho283, hs284, _⟩
                  have hs284 : HS _ _ _ [_, _, _, _, p282, _, _, _] _ := hs284
                  have hnp282 := OS.len' ho283
                  refine wo_end 3 rfl ?_
                  refine wk_region ?_
                  refine wro 1 0 [(0, .o (.agg ⟨[(.int .i64 c.params), (.int .i64 c.regs), (.slice lra15_3_2 hv.length lrk15_3_2)]⟩))] 185 185 [] [(185, (.agg ⟨[(.int .i64 c.params), (.int .i64 c.regs), (.slice lra15_3_2 hv.length lrk15_3_2)]⟩))] (vA (qn 24 0 3 (HS.hc hs284 (i := 3) rfl) rfl rfl rfl rfl) trivial) (by kernel_rfl) rfl fun gg285 => ?_
                  refine wo_rk (rs_rec (q := 1) hs284 rfl rfl rfl rfl rfl rfl rfl rfl rfl) rfl ?_
                  rintro _ H286 _ ⟨hs286, _⟩
                  have hs286 : HS _ _ _ [_, [(b3, .cells [(.int .i64 c.params), (.int .i64 c.regs), (.slice lra15_3_2 hv.length lrk15_3_2)] none false)], _, _, _, _, _, _] _ := hs286
                  refine wo_end 1 rfl ?_
                  obtain ⟨F287, hF287, hs287, ha287⟩ := SF.freeze hf281 hs286 (q := 5) rfl
                  have hs287 : HS _ _ _ [_, _, _, _, _, [], _, _] _ := hs287
                  replace hT := hT.mono hF287
                  replace hc_2 := hc_2.mono hF287
                  replace ho283 := ho283.mono hF287
                  replace lrh15_3_2 := lrh15_3_2.mono hF287
                  obtain ⟨F288, hF288, hs288, hr288, hp288⟩ := OS.frz ho283 hs287 (i := 4) rfl
                  have hs288 : HS _ _ _ [_, _, _, _, [], _, _, _] _ := hs288
                  replace hT := hT.mono hF288
                  replace hc_2 := hc_2.mono hF288
                  replace lrh15_3_2 := lrh15_3_2.mono hF288
                  have hq288 := blkH_rows hr288 (by omega) (fun i hi => SR.mono hF288 (ha287 i hi))
                  have ln288 := SR.len' hq288
                  have hq288N := SR.norm hq288
                  refine wk_ret ⟨.inr rfl, _, (rC rfl (ldVN rfl rfl (HS.hc hs288 (i := 1) rfl) rfl) rN), (⟨c.params, c.regs, (blkZ (hv.set ii (⟨(hv.getD ii default).h, (hv.getD ii default).fin, (hv.getD ii default).reg, (hv.getD ii default).tgt, r220 - 2⟩ : BlkH)) lv)⟩ : VFnT), lra15_3_2, lrk15_3_2, _, (Fz.le_trans (Fz.le_trans (Fz.le_trans (Fz.le_trans (hF15) hF220) hF222) hF287) hF288), (HS.forget hs288), (by simp only [ln288]; rfl), (by first | omega | (dsimp only; omega)), (by first | omega | (dsimp only; omega)), hq288N, (by exact Nat.le_trans blkZ_len (by first | omega | (simp; omega))), (by exact fun m hm => blkZ_ok (by first | exact ok_7 (e4 m hm) | exact ok_7 (fun y hy => e4 m hm y (List.mem_of_mem_take hy)) | exact ok_set (e4 m hm) (Nat.le_succ_of_le (ok_arg (ok_getD (e4 m hm)))) | exact ok_set (e4 m hm) (ok_more (ok_arg (ok_getD (e4 m hm))))))⟩
                · have c278 := c278b
                  try simp only [BS] at c278
                  refine wr 1 [] 117 119 [] [(117, (.bool (r222 == 6)))] trivial (by kernel_rfl) rfl fun gg289 => ?_
                  refine wk_if 0 1 (v := (r222 == 6)) rfl rfl rfl rfl (fun c290b => ?_) (fun c290b => ?_)
                  · have c290 := c290b
                    try simp only [BS] at c290
                    refine wk_region ?_
                    refine wro 5 0 [] 120 124 [] [(121, (.int .i64 (r220 - 2))), (124, (.pointer (some ⟨b218, 0, none⟩)))] trivial (by kernel_rfl) rfl fun gg291 => ?_
                    refine wo_rk (rs_rec (q := 7) hs222 rfl rfl rfl rfl rfl rfl rfl rfl rfl) rfl ?_
                    rintro _ H292 _ ⟨hs292, _⟩
                    have hs292 : HS _ _ _ [_, _, _, _, _, _, _, [(b218, .cells [(.int .i64 (r220 - 2)), (.int .i64 0), (.int .i64 0), (.int .i64 0), (.int .i64 0), (.slice none 0 0)] none false)]] _ := hs292
                    refine wo_end 3 rfl ?_
                    refine wk_region ?_
                    refine wro 1 0 [(0, .o (.agg ⟨[(.int .i64 c.params), (.int .i64 c.regs), (.slice lra15_3_2 hv.length lrk15_3_2)]⟩))] 185 185 [] [(185, (.agg ⟨[(.int .i64 c.params), (.int .i64 c.regs), (.slice lra15_3_2 hv.length lrk15_3_2)]⟩))] (vA (qn 24 0 3 (HS.hc hs292 (i := 3) rfl) rfl rfl rfl rfl) trivial) (by kernel_rfl) rfl fun gg293 => ?_
                    refine wo_rk (rs_rec (q := 1) hs292 rfl rfl rfl rfl rfl rfl rfl rfl rfl) rfl ?_
                    rintro _ H294 _ ⟨hs294, _⟩
                    have hs294 : HS _ _ _ [_, [(b3, .cells [(.int .i64 c.params), (.int .i64 c.regs), (.slice lra15_3_2 hv.length lrk15_3_2)] none false)], _, _, _, _, _, _] _ := hs294
                    refine wo_end 1 rfl ?_
                    obtain ⟨fq295, hs295, hf295⟩ := SF.shut0 fw44 (Fz.le_trans (hF220) hF222) hs294 (q := 5) (m := 6) (by decide) rfl rfl ho44
                    have hs295 : HS _ _ _ [_, _, _, _, _, fq295, [], _] _ := hs295
                    have fl295 := FAM.len hf295
                    obtain ⟨F296, hF296, hs296, ha296⟩ := SF.freeze hf295 hs295 (q := 5) rfl
                    have hs296 : HS _ _ _ [_, _, _, _, _, [], _, _] _ := hs296
                    replace hT := hT.mono hF296
                    replace hc_2 := hc_2.mono hF296
                    replace lrh15_3_2 := lrh15_3_2.mono hF296
                    obtain ⟨F297, hF297, hs297, hr297, hp297⟩ := OS.frz lrh15_3_2 hs296 (i := 4) rfl
                    have hs297 : HS _ _ _ [_, _, _, _, [], _, _, _] _ := hs297
                    replace hT := hT.mono hF297
                    replace hc_2 := hc_2.mono hF297
                    have hq297 := blkH_rows hr297 (by omega) (fun i hi => SR.mono hF297 (ha296 i hi))
                    have ln297 := SR.len' hq297
                    have hq297N := SR.norm hq297
                    refine wk_ret ⟨.inr rfl, _, (rC rfl (ldVN rfl rfl (HS.hc hs297 (i := 1) rfl) rfl) rN), (⟨c.params, c.regs, (blkZ hv lv)⟩ : VFnT), lra15_3_2, lrk15_3_2, _, (Fz.le_trans (Fz.le_trans (Fz.le_trans (Fz.le_trans (hF15) hF220) hF222) hF296) hF297), (HS.forget hs297), (by simp only [ln297]; rfl), (by first | omega | (dsimp only; omega)), (by first | omega | (dsimp only; omega)), hq297N, (by exact Nat.le_trans blkZ_len (by first | omega | (simp; omega))), (by exact fun m hm => blkZ_ok (by first | exact ok_7 (e4 m hm) | exact ok_7 (fun y hy => e4 m hm y (List.mem_of_mem_take hy)) | exact ok_set (e4 m hm) (Nat.le_succ_of_le (ok_arg (ok_getD (e4 m hm)))) | exact ok_set (e4 m hm) (ok_more (ok_arg (ok_getD (e4 m hm))))))⟩
                  · have c290 := c290b
                    try simp only [BS] at c290
                    refine wr 1 [] 125 127 [] [(125, (.bool (r222 == 7)))] trivial (by kernel_rfl) rfl fun gg298 => ?_
                    refine wk_if 0 1 (v := (r222 == 7)) rfl rfl rfl rfl (fun c299b => ?_) (fun c299b => ?_)
                    · have c299 := c299b
                      try simp only [BS] at c299
                      refine wk_region ?_
                      refine wro 5 0 [] 128 132 [] [(129, (.int .i64 (r220 - 2))), (132, (.pointer (some ⟨b218, 1, none⟩)))] trivial (by kernel_rfl) rfl fun gg300 => ?_
                      refine wo_rk (rs_rec (q := 7) hs222 rfl rfl rfl rfl rfl rfl rfl rfl rfl) rfl ?_
                      rintro _ H301 _ ⟨hs301, _⟩
                      have hs301 : HS _ _ _ [_, _, _, _, _, _, _, [(b218, .cells [(.int .i64 0), (.int .i64 (r220 - 2)), (.int .i64 0), (.int .i64 0), (.int .i64 0), (.slice none 0 0)] none false)]] _ := hs301
                      refine wo_end 3 rfl ?_
                      refine wk_region ?_
                      refine wro 1 0 [(0, .o (.agg ⟨[(.int .i64 c.params), (.int .i64 c.regs), (.slice lra15_3_2 hv.length lrk15_3_2)]⟩))] 185 185 [] [(185, (.agg ⟨[(.int .i64 c.params), (.int .i64 c.regs), (.slice lra15_3_2 hv.length lrk15_3_2)]⟩))] (vA (qn 24 0 3 (HS.hc hs301 (i := 3) rfl) rfl rfl rfl rfl) trivial) (by kernel_rfl) rfl fun gg302 => ?_
                      refine wo_rk (rs_rec (q := 1) hs301 rfl rfl rfl rfl rfl rfl rfl rfl rfl) rfl ?_
                      rintro _ H303 _ ⟨hs303, _⟩
                      have hs303 : HS _ _ _ [_, [(b3, .cells [(.int .i64 c.params), (.int .i64 c.regs), (.slice lra15_3_2 hv.length lrk15_3_2)] none false)], _, _, _, _, _, _] _ := hs303
                      refine wo_end 1 rfl ?_
                      obtain ⟨fq304, hs304, hf304⟩ := SF.shut0 fw44 (Fz.le_trans (hF220) hF222) hs303 (q := 5) (m := 6) (by decide) rfl rfl ho44
                      have hs304 : HS _ _ _ [_, _, _, _, _, fq304, [], _] _ := hs304
                      have fl304 := FAM.len hf304
                      obtain ⟨F305, hF305, hs305, ha305⟩ := SF.freeze hf304 hs304 (q := 5) rfl
                      have hs305 : HS _ _ _ [_, _, _, _, _, [], _, _] _ := hs305
                      replace hT := hT.mono hF305
                      replace hc_2 := hc_2.mono hF305
                      replace lrh15_3_2 := lrh15_3_2.mono hF305
                      obtain ⟨F306, hF306, hs306, hr306, hp306⟩ := OS.frz lrh15_3_2 hs305 (i := 4) rfl
                      have hs306 : HS _ _ _ [_, _, _, _, [], _, _, _] _ := hs306
                      replace hT := hT.mono hF306
                      replace hc_2 := hc_2.mono hF306
                      have hq306 := blkH_rows hr306 (by omega) (fun i hi => SR.mono hF306 (ha305 i hi))
                      have ln306 := SR.len' hq306
                      have hq306N := SR.norm hq306
                      refine wk_ret ⟨.inr rfl, _, (rC rfl (ldVN rfl rfl (HS.hc hs306 (i := 1) rfl) rfl) rN), (⟨c.params, c.regs, (blkZ hv lv)⟩ : VFnT), lra15_3_2, lrk15_3_2, _, (Fz.le_trans (Fz.le_trans (Fz.le_trans (Fz.le_trans (hF15) hF220) hF222) hF305) hF306), (HS.forget hs306), (by simp only [ln306]; rfl), (by first | omega | (dsimp only; omega)), (by first | omega | (dsimp only; omega)), hq306N, (by exact Nat.le_trans blkZ_len (by first | omega | (simp; omega))), (by exact fun m hm => blkZ_ok (by first | exact ok_7 (e4 m hm) | exact ok_7 (fun y hy => e4 m hm y (List.mem_of_mem_take hy)) | exact ok_set (e4 m hm) (Nat.le_succ_of_le (ok_arg (ok_getD (e4 m hm)))) | exact ok_set (e4 m hm) (ok_more (ok_arg (ok_getD (e4 m hm))))))⟩
                    · have c299 := c299b
                      try simp only [BS] at c299
                      refine wr 1 [] 133 135 [] [(133, (.bool (r222 == 8)))] trivial (by kernel_rfl) rfl fun gg307 => ?_
                      refine wk_if 0 1 (v := (r222 == 8)) rfl rfl rfl rfl (fun c308b => ?_) (fun c308b => ?_)
                      · have c308 := c308b
                        try simp only [BS] at c308
                        refine wk_region ?_
                        refine wro 5 0 [] 136 140 [] [(137, (.int .i64 (r220 - 2))), (140, (.pointer (some ⟨b218, 2, none⟩)))] trivial (by kernel_rfl) rfl fun gg309 => ?_
                        refine wo_rk (rs_rec (q := 7) hs222 rfl rfl rfl rfl rfl rfl rfl rfl rfl) rfl ?_
                        rintro _ H310 _ ⟨hs310, _⟩
                        have hs310 : HS _ _ _ [_, _, _, _, _, _, _, [(b218, .cells [(.int .i64 0), (.int .i64 0), (.int .i64 (r220 - 2)), (.int .i64 0), (.int .i64 0), (.slice none 0 0)] none false)]] _ := hs310
                        refine wo_end 3 rfl ?_
                        refine wk_region ?_
                        refine wro 1 0 [(0, .o (.agg ⟨[(.int .i64 c.params), (.int .i64 c.regs), (.slice lra15_3_2 hv.length lrk15_3_2)]⟩))] 185 185 [] [(185, (.agg ⟨[(.int .i64 c.params), (.int .i64 c.regs), (.slice lra15_3_2 hv.length lrk15_3_2)]⟩))] (vA (qn 24 0 3 (HS.hc hs310 (i := 3) rfl) rfl rfl rfl rfl) trivial) (by kernel_rfl) rfl fun gg311 => ?_
                        refine wo_rk (rs_rec (q := 1) hs310 rfl rfl rfl rfl rfl rfl rfl rfl rfl) rfl ?_
                        rintro _ H312 _ ⟨hs312, _⟩
                        have hs312 : HS _ _ _ [_, [(b3, .cells [(.int .i64 c.params), (.int .i64 c.regs), (.slice lra15_3_2 hv.length lrk15_3_2)] none false)], _, _, _, _, _, _] _ := hs312
                        refine wo_end 1 rfl ?_
                        obtain ⟨fq313, hs313, hf313⟩ := SF.shut0 fw44 (Fz.le_trans (hF220) hF222) hs312 (q := 5) (m := 6) (by decide) rfl rfl ho44
                        have hs313 : HS _ _ _ [_, _, _, _, _, fq313, [], _] _ := hs313
                        have fl313 := FAM.len hf313
                        obtain ⟨F314, hF314, hs314, ha314⟩ := SF.freeze hf313 hs313 (q := 5) rfl
                        have hs314 : HS _ _ _ [_, _, _, _, _, [], _, _] _ := hs314
                        replace hT := hT.mono hF314
                        replace hc_2 := hc_2.mono hF314
                        replace lrh15_3_2 := lrh15_3_2.mono hF314
                        obtain ⟨F315, hF315, hs315, hr315, hp315⟩ := OS.frz lrh15_3_2 hs314 (i := 4) rfl
                        have hs315 : HS _ _ _ [_, _, _, _, [], _, _, _] _ := hs315
                        replace hT := hT.mono hF315
                        replace hc_2 := hc_2.mono hF315
                        have hq315 := blkH_rows hr315 (by omega) (fun i hi => SR.mono hF315 (ha314 i hi))
                        have ln315 := SR.len' hq315
                        have hq315N := SR.norm hq315
                        refine wk_ret ⟨.inr rfl, _, (rC rfl (ldVN rfl rfl (HS.hc hs315 (i := 1) rfl) rfl) rN), (⟨c.params, c.regs, (blkZ hv lv)⟩ : VFnT), lra15_3_2, lrk15_3_2, _, (Fz.le_trans (Fz.le_trans (Fz.le_trans (Fz.le_trans (hF15) hF220) hF222) hF314) hF315), (HS.forget hs315), (by simp only [ln315]; rfl), (by first | omega | (dsimp only; omega)), (by first | omega | (dsimp only; omega)), hq315N, (by exact Nat.le_trans blkZ_len (by first | omega | (simp; omega))), (by exact fun m hm => blkZ_ok (by first | exact ok_7 (e4 m hm) | exact ok_7 (fun y hy => e4 m hm y (List.mem_of_mem_take hy)) | exact ok_set (e4 m hm) (Nat.le_succ_of_le (ok_arg (ok_getD (e4 m hm)))) | exact ok_set (e4 m hm) (ok_more (ok_arg (ok_getD (e4 m hm))))))⟩
                      · have c308 := c308b
                        try simp only [BS] at c308
                        refine wr 1 [] 141 143 [] [(141, (.bool (r222 == 9)))] trivial (by kernel_rfl) rfl fun gg316 => ?_
                        refine wk_if 0 1 (v := (r222 == 9)) rfl rfl rfl rfl (fun c317b => ?_) (fun c317b => ?_)
                        · have c317 := c317b
                          try simp only [BS] at c317
                          refine wk_region ?_
                          refine wro 5 0 [] 144 148 [] [(145, (.int .i64 (r220 - 2))), (148, (.pointer (some ⟨b218, 3, none⟩)))] trivial (by kernel_rfl) rfl fun gg318 => ?_
                          refine wo_rk (rs_rec (q := 7) hs222 rfl rfl rfl rfl rfl rfl rfl rfl rfl) rfl ?_
                          rintro _ H319 _ ⟨hs319, _⟩
                          have hs319 : HS _ _ _ [_, _, _, _, _, _, _, [(b218, .cells [(.int .i64 0), (.int .i64 0), (.int .i64 0), (.int .i64 (r220 - 2)), (.int .i64 0), (.slice none 0 0)] none false)]] _ := hs319
                          refine wo_end 3 rfl ?_
                          refine wk_region ?_
                          refine wro 1 0 [(0, .o (.agg ⟨[(.int .i64 c.params), (.int .i64 c.regs), (.slice lra15_3_2 hv.length lrk15_3_2)]⟩))] 185 185 [] [(185, (.agg ⟨[(.int .i64 c.params), (.int .i64 c.regs), (.slice lra15_3_2 hv.length lrk15_3_2)]⟩))] (vA (qn 24 0 3 (HS.hc hs319 (i := 3) rfl) rfl rfl rfl rfl) trivial) (by kernel_rfl) rfl fun gg320 => ?_
                          refine wo_rk (rs_rec (q := 1) hs319 rfl rfl rfl rfl rfl rfl rfl rfl rfl) rfl ?_
                          rintro _ H321 _ ⟨hs321, _⟩
                          have hs321 : HS _ _ _ [_, [(b3, .cells [(.int .i64 c.params), (.int .i64 c.regs), (.slice lra15_3_2 hv.length lrk15_3_2)] none false)], _, _, _, _, _, _] _ := hs321
                          refine wo_end 1 rfl ?_
                          obtain ⟨fq322, hs322, hf322⟩ := SF.shut0 fw44 (Fz.le_trans (hF220) hF222) hs321 (q := 5) (m := 6) (by decide) rfl rfl ho44
                          have hs322 : HS _ _ _ [_, _, _, _, _, fq322, [], _] _ := hs322
                          have fl322 := FAM.len hf322
                          obtain ⟨F323, hF323, hs323, ha323⟩ := SF.freeze hf322 hs322 (q := 5) rfl
                          have hs323 : HS _ _ _ [_, _, _, _, _, [], _, _] _ := hs323
                          replace hT := hT.mono hF323
                          replace hc_2 := hc_2.mono hF323
                          replace lrh15_3_2 := lrh15_3_2.mono hF323
                          obtain ⟨F324, hF324, hs324, hr324, hp324⟩ := OS.frz lrh15_3_2 hs323 (i := 4) rfl
                          have hs324 : HS _ _ _ [_, _, _, _, [], _, _, _] _ := hs324
                          replace hT := hT.mono hF324
                          replace hc_2 := hc_2.mono hF324
                          have hq324 := blkH_rows hr324 (by omega) (fun i hi => SR.mono hF324 (ha323 i hi))
                          have ln324 := SR.len' hq324
                          have hq324N := SR.norm hq324
                          refine wk_ret ⟨.inr rfl, _, (rC rfl (ldVN rfl rfl (HS.hc hs324 (i := 1) rfl) rfl) rN), (⟨c.params, c.regs, (blkZ hv lv)⟩ : VFnT), lra15_3_2, lrk15_3_2, _, (Fz.le_trans (Fz.le_trans (Fz.le_trans (Fz.le_trans (hF15) hF220) hF222) hF323) hF324), (HS.forget hs324), (by simp only [ln324]; rfl), (by first | omega | (dsimp only; omega)), (by first | omega | (dsimp only; omega)), hq324N, (by exact Nat.le_trans blkZ_len (by first | omega | (simp; omega))), (by exact fun m hm => blkZ_ok (by first | exact ok_7 (e4 m hm) | exact ok_7 (fun y hy => e4 m hm y (List.mem_of_mem_take hy)) | exact ok_set (e4 m hm) (Nat.le_succ_of_le (ok_arg (ok_getD (e4 m hm)))) | exact ok_set (e4 m hm) (ok_more (ok_arg (ok_getD (e4 m hm))))))⟩
                        · have c317 := c317b
                          try simp only [BS] at c317
                          refine wr 1 [] 149 151 [] [(149, (.bool (r222 == 10)))] trivial (by kernel_rfl) rfl fun gg325 => ?_
                          refine wk_if 0 1 (v := (r222 == 10)) rfl rfl rfl rfl (fun c326b => ?_) (fun c326b => ?_)
                          · have c326 := c326b
                            try simp only [BS] at c326
                            refine wk_region ?_
                            refine wro 2 0 [] 152 153 [] [(152, (.pointer (some ⟨b218, 0, none⟩))), (153, (.int .i64 (r220 - 2)))] trivial (by kernel_rfl) rfl fun gg327 => ?_
                            refine wo_call (ap_call rfl rfl rfl) rfl rfl (m4.word_c ex (r220 - 2) (1099511627776) (HS.call hs222) (by first | omega | (dsimp only; omega)) (by first | omega | (dsimp only; omega)) hT) ?_
                            rintro _ H328 ⟨r328, F328, hF328, hs328, rfl, h328⟩
                            replace hs328 := HS.back hs222 rfl hs328
                            have hs328 : HS _ _ _ [_, _, _, _, _, _, _, _] _ := hs328
                            replace hT := hT.mono hF328
                            replace hc_2 := hc_2.mono hF328
                            replace ho44 := ho44.mono hF328
                            replace lrh15_3_2 := lrh15_3_2.mono hF328
                            refine wro 3 3 [] 155 157 [] [(157, (.pointer (some ⟨b218, 4, none⟩)))] trivial (by kernel_rfl) rfl fun gg329 => ?_
                            refine wo_rk (rs_rec (q := 7) hs328 rfl rfl rfl rfl rfl rfl rfl rfl rfl) rfl ?_
                            rintro _ H330 _ ⟨hs330, _⟩
                            have hs330 : HS _ _ _ [_, _, _, _, _, _, _, [(b218, .cells [(.int .i64 0), (.int .i64 0), (.int .i64 0), (.int .i64 0), (.int .i64 r328), (.slice none 0 0)] none false)]] _ := hs330
                            refine wo_end 3 rfl ?_
                            refine wk_region ?_
                            refine wro 1 0 [(0, .o (.agg ⟨[(.int .i64 c.params), (.int .i64 c.regs), (.slice lra15_3_2 hv.length lrk15_3_2)]⟩))] 185 185 [] [(185, (.agg ⟨[(.int .i64 c.params), (.int .i64 c.regs), (.slice lra15_3_2 hv.length lrk15_3_2)]⟩))] (vA (qn 24 0 3 (HS.hc hs330 (i := 3) rfl) rfl rfl rfl rfl) trivial) (by kernel_rfl) rfl fun gg331 => ?_
                            refine wo_rk (rs_rec (q := 1) hs330 rfl rfl rfl rfl rfl rfl rfl rfl rfl) rfl ?_
                            rintro _ H332 _ ⟨hs332, _⟩
                            have hs332 : HS _ _ _ [_, [(b3, .cells [(.int .i64 c.params), (.int .i64 c.regs), (.slice lra15_3_2 hv.length lrk15_3_2)] none false)], _, _, _, _, _, _] _ := hs332
                            refine wo_end 1 rfl ?_
                            obtain ⟨fq333, hs333, hf333⟩ := SF.shut0 fw44 (Fz.le_trans (Fz.le_trans (hF220) hF222) hF328) hs332 (q := 5) (m := 6) (by decide) rfl rfl ho44
                            have hs333 : HS _ _ _ [_, _, _, _, _, fq333, [], _] _ := hs333
                            have fl333 := FAM.len hf333
                            obtain ⟨F334, hF334, hs334, ha334⟩ := SF.freeze hf333 hs333 (q := 5) rfl
                            have hs334 : HS _ _ _ [_, _, _, _, _, [], _, _] _ := hs334
                            replace hT := hT.mono hF334
                            replace hc_2 := hc_2.mono hF334
                            replace lrh15_3_2 := lrh15_3_2.mono hF334
                            obtain ⟨F335, hF335, hs335, hr335, hp335⟩ := OS.frz lrh15_3_2 hs334 (i := 4) rfl
                            have hs335 : HS _ _ _ [_, _, _, _, [], _, _, _] _ := hs335
                            replace hT := hT.mono hF335
                            replace hc_2 := hc_2.mono hF335
                            have hq335 := blkH_rows hr335 (by omega) (fun i hi => SR.mono hF335 (ha334 i hi))
                            have ln335 := SR.len' hq335
                            have hq335N := SR.norm hq335
                            refine wk_ret ⟨.inr rfl, _, (rC rfl (ldVN rfl rfl (HS.hc hs335 (i := 1) rfl) rfl) rN), (⟨c.params, c.regs, (blkZ hv lv)⟩ : VFnT), lra15_3_2, lrk15_3_2, _, (Fz.le_trans (Fz.le_trans (Fz.le_trans (Fz.le_trans (Fz.le_trans (hF15) hF220) hF222) hF328) hF334) hF335), (HS.forget hs335), (by simp only [ln335]; rfl), (by first | omega | (dsimp only; omega)), (by first | omega | (dsimp only; omega)), hq335N, (by exact Nat.le_trans blkZ_len (by first | omega | (simp; omega))), (by exact fun m hm => blkZ_ok (by first | exact ok_7 (e4 m hm) | exact ok_7 (fun y hy => e4 m hm y (List.mem_of_mem_take hy)) | exact ok_set (e4 m hm) (Nat.le_succ_of_le (ok_arg (ok_getD (e4 m hm)))) | exact ok_set (e4 m hm) (ok_more (ok_arg (ok_getD (e4 m hm))))))⟩
                          · have c326 := c326b
                            try simp only [BS] at c326
                            refine wr 1 [] 158 160 [] [(158, (.bool (r222 == 11)))] trivial (by kernel_rfl) rfl fun gg336 => ?_
                            refine wk_if 0 1 (v := (r222 == 11)) rfl rfl rfl rfl (fun c337b => ?_) (fun c337b => ?_)
                            · have c337 := c337b
                              try simp only [BS] at c337
                              refine wk_region ?_
                              refine wro 5 0 [(4, .o (.slice none 0 0))] 161 165 [] [(161, (.pointer (some ⟨b218, 0, none⟩))), (165, (.slice none 0 0))] (vA (ql 25 5 (HS.hc hs222 (i := 7) rfl) rfl rfl) trivial) (by kernel_rfl) rfl fun gg338 => ?_
                              have hs339 := HS.snoc hs222
                              have hs339 : HS _ _ _ [_, _, _, _, _, _, _, _, []] _ := hs339
                              refine wo_rs (rs_app (α := Int) (q := 8) (OS.nil : OS F222 (.slice none 0 0) ([] : List Int) []) hs339 rfl rfl rfl (SR.sv (SR.nil : SR F222 _ (([] : List Int))) hs339) rfl rfl rfl rfl rfl rfl rfl (by first | omega | (simp only [List.length_nil]; first | omega | (have hq := ok_arg (i := kk) (ok_getD (i := ii) e2); omega)))) rfl rfl ?_
                              rintro _ H341 p340 ⟨a340, k340, rfl, ho340, hs341, _⟩
                              have hs341 : HS _ _ _ [_, _, _, _, _, _, _, _, p340] _ := hs341
                              have ho340 : OS F222 (.slice a340 ([] : List Int).length k340) ([] : List Int) p340 := ho340
                              refine wm (.int .i64 (r220 - 2)) rfl rfl rfl ?_
                              refine wo_rs (rs_lit (α := Int) (ps := [(0, (.int .i64 (r220 - 2)))]) (cells := [(.int .i64 (r220 - 2))]) ([r220 - 2] : List Int) hs341 rfl rfl rfl (by kernel_rfl) ⟨[(.int .i64 (r220 - 2))], [], rfl, ⟨rfl, by first | omega | (dsimp only; omega)⟩, rfl⟩ rfl) rfl rfl ?_
                              rintro _ H343 p342 ⟨a342, k342, rfl, ho342, hs343, _⟩
                              have hs343 : HS _ _ _ [_, _, _, _, _, _, _, _, _, p342] _ := hs343
                              refine wo_rs (rs_app (α := Int) (q := 8) ho340 hs343 rfl rfl rfl (OS.sv ho342 hs343 (i := 9) rfl) rfl rfl rfl rfl rfl rfl rfl (by first | omega | (simp only [List.length_cons, List.length_nil]; first | omega | (have hq := ok_arg (i := kk) (ok_getD (i := ii) e2); omega)))) rfl rfl ?_
                              rintro _ H345 p344 ⟨a344, k344, rfl, ho344, hs345, _⟩
                              have hs345 : HS _ _ _ [_, _, _, _, _, _, _, _, p344, _] _ := hs345
                              have ho344 : OS F222 (.slice a344 ([r220 - 2] : List Int).length k344) ([r220 - 2] : List Int) p344 := ho344
                              refine wro 2 9 [] 170 171 [] [(171, (.pointer (some ⟨b218, 5, none⟩)))] trivial (by kernel_rfl) rfl fun gg346 => ?_
                              refine wo_rk (rs_rec (q := 7) hs345 rfl rfl rfl rfl rfl rfl rfl rfl rfl) rfl ?_
                              rintro _ H347 _ ⟨hs347, _⟩
                              have hs347 : HS _ _ _ [_, _, _, _, _, _, _, [(b218, .cells [(.int .i64 0), (.int .i64 0), (.int .i64 0), (.int .i64 0), (.int .i64 0), (.slice a344 ([r220 - 2] : List Int).length k344)] none false)], _, _] _ := hs347
                              refine wo_end 3 rfl ?_
                              refine wk_region ?_
                              refine wro 1 0 [(0, .o (.agg ⟨[(.int .i64 c.params), (.int .i64 c.regs), (.slice lra15_3_2 hv.length lrk15_3_2)]⟩))] 185 185 [] [(185, (.agg ⟨[(.int .i64 c.params), (.int .i64 c.regs), (.slice lra15_3_2 hv.length lrk15_3_2)]⟩))] (vA (qn 24 0 3 (HS.hc hs347 (i := 3) rfl) rfl rfl rfl rfl) trivial) (by kernel_rfl) rfl fun gg348 => ?_
                              refine wo_rk (rs_rec (q := 1) hs347 rfl rfl rfl rfl rfl rfl rfl rfl rfl) rfl ?_
                              rintro _ H349 _ ⟨hs349, _⟩
                              have hs349 : HS _ _ _ [_, [(b3, .cells [(.int .i64 c.params), (.int .i64 c.regs), (.slice lra15_3_2 hv.length lrk15_3_2)] none false)], _, _, _, _, _, _, _, _] _ := hs349
                              refine wo_end 1 rfl ?_
                              obtain ⟨fq350, hs350, hf350⟩ := SF.shut0 fw44 (Fz.le_trans (hF220) hF222) hs349 (q := 5) (m := 6) (by decide) rfl rfl ho44
                              have hs350 : HS _ _ _ [_, _, _, _, _, fq350, [], _, _, _] _ := hs350
                              have fl350 := FAM.len hf350
                              obtain ⟨F351, hF351, hs351, ha351⟩ := SF.freeze hf350 hs350 (q := 5) rfl
                              have hs351 : HS _ _ _ [_, _, _, _, _, [], _, _, _, _] _ := hs351
                              replace hT := hT.mono hF351
                              replace hc_2 := hc_2.mono hF351
                              replace ho340 := ho340.mono hF351
                              replace ho342 := ho342.mono hF351
                              replace ho344 := ho344.mono hF351
                              replace lrh15_3_2 := lrh15_3_2.mono hF351
                              obtain ⟨F352, hF352, hs352, hr352, hp352⟩ := OS.frz lrh15_3_2 hs351 (i := 4) rfl
                              have hs352 : HS _ _ _ [_, _, _, _, [], _, _, _, _, _] _ := hs352
                              replace hT := hT.mono hF352
                              replace hc_2 := hc_2.mono hF352
                              replace ho340 := ho340.mono hF352
                              replace ho342 := ho342.mono hF352
                              replace ho344 := ho344.mono hF352
                              have hq352 := blkH_rows hr352 (by omega) (fun i hi => SR.mono hF352 (ha351 i hi))
                              have ln352 := SR.len' hq352
                              have hq352N := SR.norm hq352
                              refine wk_ret ⟨.inr rfl, _, (rC rfl (ldVN rfl rfl (HS.hc hs352 (i := 1) rfl) rfl) rN), (⟨c.params, c.regs, (blkZ hv lv)⟩ : VFnT), lra15_3_2, lrk15_3_2, _, (Fz.le_trans (Fz.le_trans (Fz.le_trans (Fz.le_trans (hF15) hF220) hF222) hF351) hF352), (HS.forget hs352), (by simp only [ln352]; rfl), (by first | omega | (dsimp only; omega)), (by first | omega | (dsimp only; omega)), hq352N, (by exact Nat.le_trans blkZ_len (by first | omega | (simp; omega))), (by exact fun m hm => blkZ_ok (by first | exact ok_7 (e4 m hm) | exact ok_7 (fun y hy => e4 m hm y (List.mem_of_mem_take hy)) | exact ok_set (e4 m hm) (Nat.le_succ_of_le (ok_arg (ok_getD (e4 m hm)))) | exact ok_set (e4 m hm) (ok_more (ok_arg (ok_getD (e4 m hm))))))⟩
                            · have c337 := c337b
                              try simp only [BS] at c337
                              refine wr 1 [] 172 174 [] [(172, (.bool (r222 == 12)))] trivial (by kernel_rfl) rfl fun gg353 => ?_
                              refine wk_if 0 3 (v := (r222 == 12)) rfl rfl rfl rfl (fun c354b => ?_) (fun c354b => ?_)
                              · have c354 := c354b
                                try simp only [BS] at c354
                                refine wk_region ?_
                                refine wro 8 0 [(1, .o (.slice lra15_3_2 hv.length lrk15_3_2)), (4, .o (.slice lra15_3_2 hv.length lrk15_3_2))] 175 182 [] [(176, (.slice lra15_3_2 hv.length lrk15_3_2)), (182, (.int .i64 (if (if (hv.length : Int) < r220 - 2 then (hv.length : Int) else r220 - 2) > (0 : Int) then (if (hv.length : Int) < r220 - 2 then (hv.length : Int) else r220 - 2) else (0 : Int))))] (vA (ql 22 2 (HS.hc hs222 (i := 3) rfl) rfl rfl) (vA (ql 22 2 (HS.hc hs222 (i := 3) rfl) rfl rfl) trivial)) (by kernel_rfl) rfl fun gg355 => ?_
                                obtain ⟨fq356, hs356, hf356⟩ := SF.shut0 fw44 (Fz.le_trans (hF220) hF222) hs222 (q := 5) (m := 6) (by decide) rfl rfl ho44
                                have hs356 : HS _ _ _ [_, _, _, _, _, fq356, [], _] _ := hs356
                                have fl356 := FAM.len hf356
                                refine wo_rs (rs_cutOt (α := BlkH) (j := (if (if (hv.length : Int) < r220 - 2 then (hv.length : Int) else r220 - 2) > (0 : Int) then (if (hv.length : Int) < r220 - 2 then (hv.length : Int) else r220 - 2) else (0 : Int)).toNat) lrh15_3_2 hs356 (q := 4) rfl rfl rfl rfl (optN (by first | omega | (dsimp only; omega))) (by first | omega | (dsimp only; omega))) rfl rfl ?_
                                rintro _ _ _ ⟨a357, k357, rfl, hH357, hq357⟩
                                simp only at hH357; replace hH357 := hH357.symm; subst hH357
                                obtain ⟨fq358, fr358, fe358, hf358⟩ := FAM.take ((if (if (hv.length : Int) < r220 - 2 then (hv.length : Int) else r220 - 2) > (0 : Int) then (if (hv.length : Int) < r220 - 2 then (hv.length : Int) else r220 - 2) else (0 : Int)).toNat) hf356
                                have hs358 := HS.open hs356 (i := 5) rfl (List.Perm.of_eq fe358)
                                have hs358 : HS _ _ _ [_, _, _, _, _, fq358, _, _, fr358] _ := hs358
                                have fl358 := FAM.len hf358
                                refine wro 1 9 [] 184 184 [] [(184, (.pointer (some ⟨b9, 2, none⟩)))] trivial (by kernel_rfl) rfl fun gg359 => ?_
                                refine wo_rk (rs_rec (q := 3) hs358 rfl rfl rfl rfl rfl rfl rfl rfl rfl) rfl ?_
                                rintro _ H360 _ ⟨hs360, _⟩
                                have hs360 : HS _ _ _ [_, _, _, [(b9, .cells [(.int .i64 c.params), (.int .i64 c.regs), (.slice a357 (hv.take ((if (if (hv.length : Int) < r220 - 2 then (hv.length : Int) else r220 - 2) > (0 : Int) then (if (hv.length : Int) < r220 - 2 then (hv.length : Int) else r220 - 2) else (0 : Int)).toNat)).length k357)] none false)], _, _, _, _, _] _ := hs360
                                refine wo_end 3 rfl ?_
                                refine wk_region ?_
                                refine wro 1 0 [(0, .o (.agg ⟨[(.int .i64 c.params), (.int .i64 c.regs), (.slice a357 (hv.take ((if (if (hv.length : Int) < r220 - 2 then (hv.length : Int) else r220 - 2) > (0 : Int) then (if (hv.length : Int) < r220 - 2 then (hv.length : Int) else r220 - 2) else (0 : Int)).toNat)).length k357)]⟩))] 185 185 [] [(185, (.agg ⟨[(.int .i64 c.params), (.int .i64 c.regs), (.slice a357 (hv.take ((if (if (hv.length : Int) < r220 - 2 then (hv.length : Int) else r220 - 2) > (0 : Int) then (if (hv.length : Int) < r220 - 2 then (hv.length : Int) else r220 - 2) else (0 : Int)).toNat)).length k357)]⟩))] (vA (qn 24 0 3 (HS.hc hs360 (i := 3) rfl) rfl rfl rfl rfl) trivial) (by kernel_rfl) rfl fun gg361 => ?_
                                refine wo_rk (rs_rec (q := 1) hs360 rfl rfl rfl rfl rfl rfl rfl rfl rfl) rfl ?_
                                rintro _ H362 _ ⟨hs362, _⟩
                                have hs362 : HS _ _ _ [_, [(b3, .cells [(.int .i64 c.params), (.int .i64 c.regs), (.slice a357 (hv.take ((if (if (hv.length : Int) < r220 - 2 then (hv.length : Int) else r220 - 2) > (0 : Int) then (if (hv.length : Int) < r220 - 2 then (hv.length : Int) else r220 - 2) else (0 : Int)).toNat)).length k357)] none false)], _, _, _, _, _, _, _] _ := hs362
                                refine wo_end 1 rfl ?_
                                obtain ⟨F363, hF363, hs363, ha363⟩ := SF.freeze hf358 hs362 (q := 5) rfl
                                have hs363 : HS _ _ _ [_, _, _, _, _, [], _, _, _] _ := hs363
                                replace hT := hT.mono hF363
                                replace hc_2 := hc_2.mono hF363
                                replace hq357 := hq357.mono hF363
                                replace lrh15_3_2 := lrh15_3_2.mono hF363
                                obtain ⟨F364, hF364, hs364, hr364, hp364⟩ := OS.frz hq357 hs363 (i := 4) rfl
                                have hs364 : HS _ _ _ [_, _, _, _, [], _, _, _, _] _ := hs364
                                replace hT := hT.mono hF364
                                replace hc_2 := hc_2.mono hF364
                                replace lrh15_3_2 := lrh15_3_2.mono hF364
                                have hq364 := blkH_rows hr364 (by omega) (fun i hi => SR.mono hF364 (ha363 i hi))
                                have ln364 := SR.len' hq364
                                have hq364N := SR.norm hq364
                                refine wk_ret ⟨.inr rfl, _, (rC rfl (ldVN rfl rfl (HS.hc hs364 (i := 1) rfl) rfl) rN), (⟨c.params, c.regs, (blkZ (hv.take ((if (if (hv.length : Int) < r220 - 2 then (hv.length : Int) else r220 - 2) > (0 : Int) then (if (hv.length : Int) < r220 - 2 then (hv.length : Int) else r220 - 2) else (0 : Int)).toNat)) (lv.take ((if (if (hv.length : Int) < r220 - 2 then (hv.length : Int) else r220 - 2) > (0 : Int) then (if (hv.length : Int) < r220 - 2 then (hv.length : Int) else r220 - 2) else (0 : Int)).toNat)))⟩ : VFnT), a357, k357, _, (Fz.le_trans (Fz.le_trans (Fz.le_trans (Fz.le_trans (hF15) hF220) hF222) hF363) hF364), (HS.forget hs364), (by simp only [ln364]; rfl), (by first | omega | (dsimp only; omega)), (by first | omega | (dsimp only; omega)), hq364N, (by exact Nat.le_trans blkZ_len (by first | omega | (simp; omega))), (by exact fun m hm => blkZ_ok (by first | exact ok_7 (e4 m hm) | exact ok_7 (fun y hy => e4 m hm y (List.mem_of_mem_take hy)) | exact ok_set (e4 m hm) (Nat.le_succ_of_le (ok_arg (ok_getD (e4 m hm)))) | exact ok_set (e4 m hm) (ok_more (ok_arg (ok_getD (e4 m hm))))))⟩
                              · have c354 := c354b
                                try simp only [BS] at c354
                                refine wk_region ?_
                                refine wro 1 0 [(0, .o (.agg ⟨[(.int .i64 c.params), (.int .i64 c.regs), (.slice lra15_3_2 hv.length lrk15_3_2)]⟩))] 185 185 [] [(185, (.agg ⟨[(.int .i64 c.params), (.int .i64 c.regs), (.slice lra15_3_2 hv.length lrk15_3_2)]⟩))] (vA (qn 24 0 3 (HS.hc hs222 (i := 3) rfl) rfl rfl rfl rfl) trivial) (by kernel_rfl) rfl fun gg365 => ?_
                                refine wo_rk (rs_rec (q := 1) hs222 rfl rfl rfl rfl rfl rfl rfl rfl rfl) rfl ?_
                                rintro _ H366 _ ⟨hs366, _⟩
                                have hs366 : HS _ _ _ [_, [(b3, .cells [(.int .i64 c.params), (.int .i64 c.regs), (.slice lra15_3_2 hv.length lrk15_3_2)] none false)], _, _, _, _, _, _] _ := hs366
                                refine wo_end 1 rfl ?_
                                obtain ⟨fq367, hs367, hf367⟩ := SF.shut0 fw44 (Fz.le_trans (hF220) hF222) hs366 (q := 5) (m := 6) (by decide) rfl rfl ho44
                                have hs367 : HS _ _ _ [_, _, _, _, _, fq367, [], _] _ := hs367
                                have fl367 := FAM.len hf367
                                obtain ⟨F368, hF368, hs368, ha368⟩ := SF.freeze hf367 hs367 (q := 5) rfl
                                have hs368 : HS _ _ _ [_, _, _, _, _, [], _, _] _ := hs368
                                replace hT := hT.mono hF368
                                replace hc_2 := hc_2.mono hF368
                                replace lrh15_3_2 := lrh15_3_2.mono hF368
                                obtain ⟨F369, hF369, hs369, hr369, hp369⟩ := OS.frz lrh15_3_2 hs368 (i := 4) rfl
                                have hs369 : HS _ _ _ [_, _, _, _, [], _, _, _] _ := hs369
                                replace hT := hT.mono hF369
                                replace hc_2 := hc_2.mono hF369
                                have hq369 := blkH_rows hr369 (by omega) (fun i hi => SR.mono hF369 (ha368 i hi))
                                have ln369 := SR.len' hq369
                                have hq369N := SR.norm hq369
                                refine wk_ret ⟨.inr rfl, _, (rC rfl (ldVN rfl rfl (HS.hc hs369 (i := 1) rfl) rfl) rN), (⟨c.params, c.regs, (blkZ hv lv)⟩ : VFnT), lra15_3_2, lrk15_3_2, _, (Fz.le_trans (Fz.le_trans (Fz.le_trans (Fz.le_trans (hF15) hF220) hF222) hF368) hF369), (HS.forget hs369), (by simp only [ln369]; rfl), (by first | omega | (dsimp only; omega)), (by first | omega | (dsimp only; omega)), hq369N, (by exact Nat.le_trans blkZ_len (by first | omega | (simp; omega))), (by exact fun m hm => blkZ_ok (by first | exact ok_7 (e4 m hm) | exact ok_7 (fun y hy => e4 m hm y (List.mem_of_mem_take hy)) | exact ok_set (e4 m hm) (Nat.le_succ_of_le (ok_arg (ok_getD (e4 m hm)))) | exact ok_set (e4 m hm) (ok_more (ok_arg (ok_getD (e4 m hm))))))⟩
end Go.Proofs.YtlabedbmgmfbaaaDoor.m9
