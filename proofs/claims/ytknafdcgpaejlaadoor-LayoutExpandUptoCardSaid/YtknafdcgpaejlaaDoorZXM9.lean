/-
 The generator that changes one detail of a function: what it makes is some function of bounded size. No condition but bounds on lengths.
-/
import Derived.Test.YtknafdcgpaejlaaDoorZXM6
import Derived.Test.YtknafdcgpaejlaaDoorZXRD
noncomputable section
namespace Go.Proofs.YtknafdcgpaejlaaDoor.m9
open Go.R
set_option maxRecDepth 10000
set_option linter.unusedVariables false
set_option linter.unusedSimpArgs false
open m1 m2 m3 m4 m5 m6
structure BlkH where
 h : Hd
 fin : Int
 reg : Int
 tgt : Int
 els : Int
 deriving Inhabited
instance : Rp BlkH where
 sz := 5
 rep F cs x := cs = [.slice x.h.a x.h.n x.h.k, .int .i64 x.fin, .int .i64 x.reg, .int .i64 x.tgt, .int .i64 x.els] ∧ in64 x.fin ∧ in64 x.reg ∧ in64 x.tgt ∧ in64 x.els
 len := by rintro F cs x ⟨rfl, _⟩; rfl
 one := by rintro F cs x ⟨rfl, _⟩; rfl
 mono := by intro F F' cs x _ h; exact h
theorem BlkH.vw {F : Fz} {get : Nat → Option AObj} {v : Value} {cf : Nat → List Value} {j : Nat} {l : List BlkH} (h : VW F get v l cf j) (hj : j < l.length) : HC get (sB v) (sO v + j * Rp.sz BlkH) [.slice (l.getD j default).h.a (l.getD j default).h.n (l.getD j default).h.k, .int .i64 (l.getD j default).fin, .int .i64 (l.getD j default).reg, .int .i64 (l.getD j default).tgt, .int .i64 (l.getD j default).els] := by
 obtain ⟨⟨A, _⟩, z⟩ := h.1 default hj
 rw [show cf j = _ from A] at z; exact z
theorem BlkH.fx {F : Fz} {get : Nat → Option AObj} {v : Value} {cf : Nat → List Value} {j : Nat} {l : List BlkH} (h : VW F get v l cf j) : in64 (l.getD j default).fin ∧ in64 (l.getD j default).reg ∧ in64 (l.getD j default).tgt ∧ in64 (l.getD j default).els := by
 rcases Nat.lt_or_ge j l.length with hj | hj
 ·
  obtain ⟨⟨J, h0, z, A, E⟩, _⟩ := h.1 default hj
  exact ⟨h0, z, A, E⟩
 rw [cU hj]; exact ⟨by decide, by decide, by decide, by decide⟩
instance : HasHd BlkH := ⟨fun h => h.h⟩
def blkZ (hs : List BlkH) (ls : List (List VInT)) : List BlkT := List.zipWith (fun h l => ⟨l, h.fin, h.reg, h.tgt, h.els⟩) hs ls
theorem blkH_rows {F : Fz} {v : Value} {hs : List BlkH} {ls : List (List VInT)} (h : SR F v hs) (hl : hs.length ≤ ls.length) (k : ∀ i, i < ls.length → SR F (HasHd.hd (hs.getD i default)).v (ls.getD i [])) : SR F v (blkZ hs ls) := by
 refine SR.conv (α := BlkH) (β := BlkT) rfl h (by unfold blkZ; rw [List.length_zipWith]; omega) F.le_refl fun i x y hx hy c hc => ?_
 have hi := (List.getElem?_eq_some_iff.1 hx).1
 have k1 := k i (by omega)
 have z : hs.getD i default = x := by rw [List.getD_eq_getElem?_getD, hx]; rfl
 have A : ls[i]? = some (ls.getD i []) := aK (by omega)
 rw [z] at k1
 have hn := SR.n (h := x.h) k1
 unfold blkZ at hy
 rw [List.getElem?_zipWith, hx, A] at hy
 obtain rfl := (Option.some.inj hy)
 obtain ⟨rfl, E, J, N, T⟩ := hc
 exact ⟨x.h.a, x.h.k, by rw [← hn], E, J, N, T, by rw [← hn]; exact k1⟩
def okI (m : Nat) (y : List VInT) : Prop := y.length ≤ 1000 ∧ ∀ z ∈ y, z.args.length ≤ m
theorem ok_snoc {m : Nat} {l : List (List VInT)} {x : List VInT} (h : ∀ y ∈ l, okI m y) (hx : okI m x) : ∀ y ∈ l ++ [x], okI m y := fun y hy => by
 rcases List.mem_append.1 hy with hy | hy
 ·
  exact h y hy
 rw [List.mem_singleton] at hy; rw [hy]; exact hx
theorem cI {m i : Nat} {l : List (List VInT)} (h : ∀ y ∈ l, okI m y) : okI m (l.getD i default) := by
 rw [List.getD_eq_getElem?_getD]
 rcases hi : l[i]? with _ | y
 ·
  exact ⟨Nat.zero_le _, fun z hz => by cases hz⟩
 exact h y (List.mem_of_getElem? hi)
theorem el {m i : Nat} {y : List VInT} (h : okI m y) : (y.getD i default).args.length ≤ m := by
 rw [List.getD_eq_getElem?_getD]
 rcases hi : y[i]? with _ | z
 ·
  exact Nat.zero_le _
 exact h.2 z (List.mem_of_getElem? hi)
theorem il {m : Nat} {l : List (List VInT)} (h : ∀ y ∈ l, okI m y) : ∀ y ∈ l, okI (m + 1) y := fun y hy => ⟨(h y hy).1, fun z hz => Nat.le_succ_of_le ((h y hy).2 z hz)⟩
theorem i7 {m ii i : Nat} {l : List (List VInT)} {z : VInT} (h : ∀ y ∈ l, okI m y) (hz : z.args.length ≤ m + 1) : ∀ y ∈ l.set ii ((l.getD ii default).set i z), okI (m + 1) y := fun y hy => by
 rcases List.mem_or_eq_of_mem_set hy with hy | hy
 ·
  exact il h y hy
 subst hy
 have A := cI (i := ii) h
 refine ⟨by rw [List.length_set]; exact A.1, fun w hw => ?_⟩
 rcases List.mem_or_eq_of_mem_set hw with hw | hw
 ·
  exact Nat.le_succ_of_le (A.2 w hw)
 subst hw; exact hz
theorem ok_more {m : Nat} {l : List Int} {n : Int} (h : l.length ≤ m) : (l ++ ([n] : List Int)).length ≤ m + 1 := by simp; omega
theorem blkZ_ok {m : Nat} {hs : List BlkH} {ls : List (List VInT)} (h : ∀ y ∈ ls, okI m y) (j : Nat) : okI m ((blkZ hs ls).getD j default).ins := by
 unfold blkZ
 rw [List.getD_eq_getElem?_getD, List.getElem?_zipWith]
 cases hs[j]? with
 | none => exact ⟨Nat.zero_le _, fun z hz => by cases hz⟩
 | some x =>
  cases hl : ls[j]? with
  | none => exact ⟨Nat.zero_le _, fun z hz => by cases hz⟩
  | some y => exact h y (List.mem_of_getElem? hl)
theorem blkZ_len {hs : List BlkH} {ls : List (List VInT)} : (blkZ hs ls).length ≤ hs.length := by unfold blkZ; rw [List.length_zipWith]; omega
set_option maxHeartbeats 2000000 in
theorem mut_c (ex : FuncId) {d1 : Option Addr} {d2 : Nat} (c : VFnT) (how : Int) (at_ : Int) {F : Fz} {H : Heap} {R : List Fp} (hs : HS (.of H []) F H [] R) (qX : in64 c.params) (qY : in64 c.regs) (ht : SR F (.slice d1 c.blocks.length d2) c.blocks) (hhow : in64 how) (hat_ : in64 at_) (hT : TB 37 tabC F) (hb : 1 ≤ c.blocks.length ∧ c.blocks.length ≤ 1000) (hi : ∀ j, okI 7 (c.blocks.getD j default).ins) : C Tryd.prog 1 (KT 60 ex 37 tabC) 18 [(.agg ⟨[(iI c.params), (iI c.regs), (.slice d1 c.blocks.length d2)]⟩), (iI how), (iI at_)] H fun v H' => ∃ (x : VFnT) (lI : Option Addr) (mz : Nat) (F' : Fz), Fz.le F F' ∧ HS (.of H []) F' H' [] R ∧ v = .agg ⟨[.int .i64 x.params, .int .i64 x.regs, .slice lI x.blocks.length mz]⟩ ∧ in64 x.params ∧ in64 x.regs ∧ SR F' (.slice lI x.blocks.length mz) x.blocks ∧ (x.blocks.length ≤ 1000) ∧ (∀ m, (∀ j, okI m (c.blocks.getD j default).ins) → ∀ j, okI (m + 1) (x.blocks.getD j default).ins) := by
 refine aJ Tryd.func18 rfl rfl ?_
 refine aq 1 rfl ?_
 refine aa ?_
 refine aC (be hs rfl rfl) rfl rfl ?_
 rintro _ H2 _ ⟨b1, rfl, (pj : HS _ _ _ [[(b1, .cells [(iI c.params), (iI c.regs), (.slice d1 c.blocks.length d2)] none false)]] _), _⟩
 refine aC (aR pj rfl) rfl rfl ?_
 rintro _ H4 _ ⟨b3, rfl, (pk : HS _ _ _ [_, [(b3, .cells [(iI 0), (iI 0), (.slice none 0 0)] none false)]] _), _⟩
 refine ab 2 rfl ?_
 refine aa ?_
 refine wRo 2 0 [] 15 16 [] [(16, (.agg ⟨[(iI how)]⟩))] trivial rfl fun _ => ?_
 refine aC (be pk rfl rfl) rfl rfl ?_
 rintro _ H7 _ ⟨b6, rfl, (ms : HS _ _ _ [_, _, [(b6, .cells [(iI how)] none false)]] _), _⟩
 refine wa (.pointer (some ⟨b6, 0, none⟩)) rfl rfl rfl ?_
 refine ab 2 rfl ?_
 refine aa ?_
 refine wRo 5 0 [(1, .o (iI c.params)), (3, .o (iI c.regs))] 18 22 [] [(22, (.agg ⟨[(iI c.params), (iI c.regs), (.slice none 0 0)]⟩))] (vA (ql 3 0 (HS.hc ms (i := 0) rfl) rfl rfl) (vA (ql 3 1 (HS.hc ms (i := 0) rfl) rfl rfl) trivial)) rfl fun _ => ?_
 refine aC (aR ms rfl) rfl rfl ?_
 rintro _ q8 _ ⟨b9, rfl, (oq : HS _ _ _ [_, _, _, [(b9, .cells [(iI 0), (iI 0), (.slice none 0 0)] none false)]] _), _⟩
 refine aF (aw (q := 3) oq rfl rfl rfl rfl rfl rfl rfl rfl rfl) rfl ?_
 rintro _ q9 _ ⟨(ot : HS _ _ _ [_, _, _, [(b9, .cells [(iI c.params), (iI c.regs), (.slice none 0 0)] none false)]] _), _⟩
 refine ab 3 rfl ?_
 refine wR 2 [] 1 0 [9] [(9, (iI 0))] trivial rfl fun _ => ?_
 have kC := HS.snoc ot
 have kC : HS _ _ _ [_, _, _, _, []] _ := kC
 have kD := HS.snoc kC
 have kD : HS _ _ _ [_, _, _, _, _, []] _ := kD
 have l2 : SF F ([] : List BlkH) ([] : List (List VInT)) [] := rfl
 have qO := FAM.len l2
 let h8 : Fp := [(b1, .cells [(iI c.params), (iI c.regs), (.slice d1 c.blocks.length d2)] none false)]
 let ib : Fp := [(b3, .cells [(iI 0), (iI 0), (.slice none 0 0)] none false)]
 refine aE (fun (mm : Nat) f H' => ∃ (hv : List BlkH) (lv : List (List VInT)) (b : Nat) (N : Fp) (z : Option Addr) (A : Nat) (ds : Fp) (F' : Fz), Fz.le F F' ∧ HS (Base.of H []) F' H' [h8, ib, [(b6, .cells [(iI how)] none false)], [(b9, .cells [(iI c.params), (iI c.regs), (.slice z hv.length A)] none false)], N, ds] R ∧ OS F' (.slice z hv.length A) hv N ∧ SF F' hv lv ds ∧ aH f [(2, (iI at_)), (3, (.pointer (some ⟨b1, 0, none⟩))), (6, (.pointer (some ⟨b3, 0, none⟩))), (7, (.pointer (some ⟨b6, 0, none⟩))), (8, (.pointer (some ⟨b9, 0, none⟩))), (9, (iI (b : Int)))] ∧ mm = c.blocks.length - b ∧ (hv.length = b) ∧ (∀ y ∈ lv, okI 7 y) ∧ (b ≤ c.blocks.length) ∧ (∀ m, (∀ j, okI m (c.blocks.getD j default).ins) → ∀ y ∈ lv, okI m y)) _ ⟨([] : List BlkH), ([] : List (List VInT)), 0, [], none, 0, [], _, fR, kD, (OS.nil : OS F (.slice none 0 0) ([] : List BlkH) []), l2, ⟨rfl, rfl, rfl, rfl, rfl, rfl, trivial⟩, rfl, (by rfl), (by simp), (by omega), (by simp)⟩ ?_
 rintro q4 rz nU ⟨hv, lv, b, N, z, A, ds, kK, f4, b4, E, f9, l3, rfl, e1, e2, e3, e4⟩ oI
 refine au _ l3 (fun _ => ?_)
 clear l3
 replace hT := hT.mono f4
 replace ht := ht.mono f4
 have oY := FAM.len f9
 have hib := (hi b).1
 refine aq 2 rfl ?_
 refine wR 1 [(2, .o (.slice d1 c.blocks.length d2))] 23 27 [] [(27, (.bool (decide ((b : Int) < (c.blocks.length : Int)))))] (vA (ql 22 2 (HS.hc b4 (i := 0) rfl) rfl rfl) trivial) rfl fun _ => ?_
 refine ap 4 5 (v := (decide ((b : Int) < (c.blocks.length : Int)))) rfl rfl rfl rfl (fun jc => ?_) (fun jc => ?_)
 ·
  have lO := jc
  try simp only [BS] at lO
  refine aa ?_
  obtain ⟨cc, mu⟩ := Sv.view (SR.sv ht b4)
  obtain ⟨pB, pC, pD, pE, nT⟩ := BlkT.fx (mu b)
  let n4 : Value := (.agg ⟨[(.slice (cA (cc b) 0) (c.blocks.getD b default).ins.length (cK (cc b) 0)), (iI (c.blocks.getD b default).fin), (iI (c.blocks.getD b default).reg), (iI (c.blocks.getD b default).tgt), (iI (c.blocks.getD b default).els)]⟩)
  refine wRo 5 0 [(1, .o (.slice d1 c.blocks.length d2)), (4, .o n4)] 30 34 [] [(34, n4)] (vA (ql 22 2 (HS.hc b4 (i := 0) rfl) rfl rfl) (vA (Sv.ix (j := (b : Int)) (SR.sv ht b4) (by omega) (by omega)) (vA (qn 48 0 5 (BlkT.vw (mu b) (by omega)) rfl rfl rfl rfl) trivial))) rfl fun _ => ?_
  refine aC (aR b4 rfl) rfl rfl ?_
  rintro _ rc _ ⟨kL, rfl, (ou : HS _ _ _ [_, _, _, [(b9, .cells [(iI c.params), (iI c.regs), (.slice z hv.length A)] none false)], N, ds, [(kL, .cells [(.slice none 0 0), (iI 0), (iI 0), (iI 0), (iI 0)] none false)]] _), _⟩
  refine aF (aw (q := 6) ou rfl rfl rfl rfl rfl rfl rfl rfl rfl) rfl ?_
  rintro _ re _ ⟨(mp : HS _ _ _ [_, _, _, _, _, _, [(kL, .cells [(.slice (cA (cc b) 0) (c.blocks.getD b default).ins.length (cK (cc b) 0)), (iI (c.blocks.getD b default).fin), (iI (c.blocks.getD b default).reg), (iI (c.blocks.getD b default).tgt), (iI (c.blocks.getD b default).els)] none false)]] _), _⟩
  refine ab 2 rfl ?_
  refine aa ?_
  refine wRo 2 0 [(1, .o (.slice (cA (cc b) 0) (c.blocks.getD b default).ins.length (cK (cc b) 0)))] 35 36 [] [(36, (.slice (cA (cc b) 0) (c.blocks.getD b default).ins.length (cK (cc b) 0)))] (vA (ql 46 0 (HS.hc mp (i := 6) rfl) rfl rfl) trivial) rfl fun _ => ?_
  have h3 := HS.snoc mp
  have h3 : HS _ _ _ [_, _, _, _, _, _, _, []] _ := h3
  refine aC (aW (α := VInT) (q := 7) (OS.nil : OS kK (.slice none 0 0) ([] : List VInT) []) h3 rfl rfl rfl (SR.sv nT h3) rfl rfl rfl rfl rfl rfl rfl (by (simp only [List.length_append, List.length_cons, List.length_nil]; first | omega | (have hq := el (i := kk) (cI (i := ii) e2); omega)))) rfl rfl ?_
  rintro _ rf nX ⟨c3, c4, rfl, kB, (ov : HS _ _ _ [_, _, _, _, _, _, _, nX] _), _⟩
  have kB : OS kK (.slice c3 (c.blocks.getD b default).ins.length c4) (c.blocks.getD b default).ins nX := kB
  refine wRo 1 3 [] 38 38 [] [(38, (.pointer (some ⟨kL, 0, none⟩)))] trivial rfl fun _ => ?_
  refine aF (aw (q := 6) ov rfl rfl rfl rfl rfl rfl rfl rfl rfl) rfl ?_
  rintro _ rg _ ⟨(kE : HS _ _ _ [_, _, _, _, _, _, [(kL, .cells [(.slice c3 (c.blocks.getD b default).ins.length c4), (iI (c.blocks.getD b default).fin), (iI (c.blocks.getD b default).reg), (iI (c.blocks.getD b default).tgt), (iI (c.blocks.getD b default).els)] none false)], _] _), _⟩
  refine ab 1 rfl ?_
  refine aa ?_
  let mL : Value := (.agg ⟨[(.slice c3 (c.blocks.getD b default).ins.length c4), (iI (c.blocks.getD b default).fin), (iI (c.blocks.getD b default).reg), (iI (c.blocks.getD b default).tgt), (iI (c.blocks.getD b default).els)]⟩)
  refine wRo 3 0 [(1, .o (.slice z hv.length A)), (2, .o mL)] 39 41 [] [(40, (.slice z hv.length A)), (41, mL)] (vA (ql 22 2 (HS.hc kE (i := 3) rfl) rfl rfl) (vA (qn 48 0 5 (HS.hc kE (i := 6) rfl) rfl rfl rfl rfl) trivial)) rfl fun _ => ?_
  refine aC (aP (α := BlkH) (ps := [(0, mL)]) (cells := [(.slice c3 (c.blocks.getD b default).ins.length c4), (iI (c.blocks.getD b default).fin), (iI (c.blocks.getD b default).reg), (iI (c.blocks.getD b default).tgt), (iI (c.blocks.getD b default).els)]) ([(⟨(⟨c3, (c.blocks.getD b default).ins.length, c4⟩ : Hd), (c.blocks.getD b default).fin, (c.blocks.getD b default).reg, (c.blocks.getD b default).tgt, (c.blocks.getD b default).els⟩ : BlkH)] : List BlkH) kE rfl rfl rfl (by kernel_rfl) ⟨[(.slice c3 (c.blocks.getD b default).ins.length c4), (iI (c.blocks.getD b default).fin), (iI (c.blocks.getD b default).reg), (iI (c.blocks.getD b default).tgt), (iI (c.blocks.getD b default).els)], [], rfl, ⟨rfl, by omega, by omega, by omega, by omega⟩, rfl⟩ rfl) rfl rfl ?_
  rintro _ rh pl ⟨ry, rE, rfl, om, (mq : HS _ _ _ [_, _, _, _, _, _, _, _, pl] _), _⟩
  refine aC (aW (α := BlkH) (q := 4) E mq rfl rfl rfl (OS.sv om mq (i := 8) rfl) rfl rfl rfl rfl rfl rfl rfl (by (simp only [List.length_append, List.length_cons, List.length_nil]; first | omega | (have hq := el (i := kk) (cI (i := ii) e2); omega)))) rfl rfl ?_
  rintro _ ri nY ⟨nV, nW, rfl, oo, (ow : HS _ _ _ [_, _, _, _, nY, _, _, _, _] _), _⟩
  obtain ⟨kA, kF, hu⟩ := SF.add (⟨(⟨c3, (c.blocks.getD b default).ins.length, c4⟩ : Hd), (c.blocks.getD b default).fin, (c.blocks.getD b default).reg, (c.blocks.getD b default).tgt, (c.blocks.getD b default).els⟩ : BlkH) f9 ow (q := 5) (m := 7) (by decide) rfl rfl kB
  have kF : HS _ _ _ [_, _, _, _, _, kA, _, [], _] _ := kF
  have hu : SF kK (hv ++ ([(⟨(⟨c3, (c.blocks.getD b default).ins.length, c4⟩ : Hd), (c.blocks.getD b default).fin, (c.blocks.getD b default).reg, (c.blocks.getD b default).tgt, (c.blocks.getD b default).els⟩ : BlkH)] : List BlkH)) (lv ++ [(c.blocks.getD b default).ins]) kA := hu
  have qP := FAM.len hu
  refine wRo 1 5 [] 44 44 [] [(44, (.pointer (some ⟨b9, 2, none⟩)))] trivial rfl fun _ => ?_
  refine aF (aw (q := 3) kF rfl rfl rfl rfl rfl rfl rfl rfl rfl) rfl ?_
  rintro _ rj _ ⟨(ox : HS _ _ _ [_, _, _, [(b9, .cells [(iI c.params), (iI c.regs), (.slice nV (hv ++ ([(⟨(⟨c3, (c.blocks.getD b default).ins.length, c4⟩ : Hd), (c.blocks.getD b default).fin, (c.blocks.getD b default).reg, (c.blocks.getD b default).tgt, (c.blocks.getD b default).els⟩ : BlkH)] : List BlkH)).length nW)] none false)], _, _, _, _, _] _), _⟩
  refine ab 2 rfl ?_
  refine wR 1 [] 28 29 [9] [(9, (iI ((b : Int) + 1)))] (vA (vi (n := (b : Int) + 1) (by omega)) trivial) rfl fun _ => ?_
  refine oI _ _ _ ?_ ⟨hv ++ ([(⟨(⟨c3, (c.blocks.getD b default).ins.length, c4⟩ : Hd), (c.blocks.getD b default).fin, (c.blocks.getD b default).reg, (c.blocks.getD b default).tgt, (c.blocks.getD b default).els⟩ : BlkH)] : List BlkH), lv ++ [(c.blocks.getD b default).ins], b + 1, nY, nV, nW, kA, _, (f4), (HS.sub ox (List.sublist_append_left _ _)), oo, hu, ⟨rfl, rfl, rfl, rfl, rfl, rfl, trivial⟩, rfl, (by simp; omega), (by exact ok_snoc e2 (hi b)), (by omega), (by exact fun m hm => ok_snoc (e4 m hm) (hm b))⟩
  omega
 have lO := jc
 try simp only [BS] at lO
 have qR := dw at_ (hv.length : Int)
 refine wRD 2 [(1, .o (.slice z hv.length A)), (4, .o (.slice z hv.length A)), (6, .o (iI (aS at_ (hv.length : Int))))] 45 52 [11] [(11, (.pointer (some ⟨sB (.slice z hv.length A), sO (.slice z hv.length A) + (aS at_ (hv.length : Int)).toNat * Rp.sz BlkH, none⟩)))] (vA (ql 22 2 (hc0 (HS.hc b4 (i := 3) rfl)) rfl rfl) (vA (ql 22 2 (hc0 (HS.hc b4 (i := 3) rfl)) rfl rfl) (vA (m1.eK ex at_ (hv.length : Int) { nU with log := [] } (by omega)) (vA (Sv.ix (j := aS at_ (hv.length : Int)) (OS.sv E b4 (i := 4) rfl) (by omega) (by omega)) trivial)))) rfl rfl fun _ => ?_
 have hii : (aS at_ (hv.length : Int)).toNat < hv.length := by omega
 generalize (aS at_ (hv.length : Int)).toNat = ii at hii ⊢
 refine wR 3 [] 1 0 [12] [(12, (.pointer none))] trivial rfl fun _ => ?_
 obtain ⟨qL, mw⟩ := Sv.view (OS.sv E b4 (i := 4) rfl)
 obtain ⟨pF, pG, pH, pI⟩ := BlkH.fx (mw ii)
 obtain ⟨l0, kz, dd, b2, l1⟩ := SF.open f9 b4 (q := 5) (i := ii) rfl (by omega)
 let n5 : Fp := [(b9, .cells [(iI c.params), (iI c.regs), (.slice z hv.length A)] none false)]
 have dd : HS _ _ _ [h8, ib, [(b6, .cells [(iI how)] none false)], n5, N, l0, kz] _ := dd
 have b2 : OS kK (.slice (hv.getD ii default).h.a (hv.getD ii default).h.n (hv.getD ii default).h.k) (lv.getD ii default) kz := b2
 have q2 := OS.nlen b2
 refine wR 1 [(3, .o (.slice (hv.getD ii default).h.a (hv.getD ii default).h.n (hv.getD ii default).h.k))] 53 58 [] [(58, (.bool (decide ((0 : Int) < ((hv.getD ii default).h.n : Int)))))] (vA (ql 46 0 (BlkH.vw (mw ii) (by omega)) rfl rfl) trivial) rfl fun _ => ?_
 refine ap 0 0 (v := (decide ((0 : Int) < ((hv.getD ii default).h.n : Int)))) rfl rfl rfl rfl (fun kp => ?_) (fun kp => ?_)
 ·
  have lP := kp
  try simp only [BS] at lP
  have hle := (cI (i := ii) e2).1
  obtain ⟨qM, kI⟩ := Sv.view (OS.sv E dd (i := 4) rfl)
  obtain ⟨pJ, pK, pL, pM⟩ := BlkH.fx (kI ii)
  have q5 : in64 at_ → in64 (Int.tdiv at_ 7) := fun h => vq h (by decide)
  have qS := dw (Int.tdiv at_ 7) ((hv.getD ii default).h.n : Int)
  refine wRD 2 [(3, .o (.slice (hv.getD ii default).h.a (hv.getD ii default).h.n (hv.getD ii default).h.k)), (9, .o (.slice (hv.getD ii default).h.a (hv.getD ii default).h.n (hv.getD ii default).h.k)), (11, .o (iI (aS (Int.tdiv at_ 7) ((hv.getD ii default).h.n : Int))))] 59 71 [12] [(12, (.pointer (some ⟨sB (.slice (hv.getD ii default).h.a (hv.getD ii default).h.n (hv.getD ii default).h.k), sO (.slice (hv.getD ii default).h.a (hv.getD ii default).h.n (hv.getD ii default).h.k) + (aS (Int.tdiv at_ 7) ((hv.getD ii default).h.n : Int)).toNat * Rp.sz VInT, none⟩)))] (vA (ql 46 0 (hc0 (BlkH.vw (kI ii) (by omega))) rfl rfl) (vA (vA (show (7 : Int) ≠ 0 from by decide) (vq (a := at_) (b := 7) (by omega) (by decide))) (vA (ql 46 0 (hc0 (BlkH.vw (kI ii) (by omega))) rfl rfl) (vA (m1.eK ex (Int.tdiv at_ 7) ((hv.getD ii default).h.n : Int) { nU with log := [] } (by omega)) (vA (Sv.ix (j := aS (Int.tdiv at_ 7) ((hv.getD ii default).h.n : Int)) (OS.sv b2 dd (i := 6) rfl) (by omega) (by omega)) trivial))))) rfl rfl fun _ => ?_
  have hkk : (aS (Int.tdiv at_ 7) ((hv.getD ii default).h.n : Int)).toNat < (lv.getD ii default).length := by omega
  generalize (aS (Int.tdiv at_ 7) ((hv.getD ii default).h.n : Int)).toNat = kk at hkk ⊢
  refine aa ?_
  refine wm (.pointer (some ⟨b6, 0, none⟩)) rfl rfl rfl ?_
  refine az (am rfl rfl rfl) rfl rfl (m4.cm ex (⟨how⟩ : DigT) (40) (HS.callOwn dd (i := 2) rfl) (by omega) (by omega) hT (by omega)) ?_
  rintro _ rk ⟨T, lX, q6, f5, h5, rfl, o7, rB⟩
  replace h5 : HS _ _ _ [h8, ib, [(b6, .cells [(iI lX.n)] none false)], n5, N, l0, kz] _ := HS.backOwn dd (i := 2) rfl rfl (fun _ hb => hb) h5
  replace hT := hT.mono f5
  refine wRo 2 2 [] 76 76 [13] [(13, (iI (T - 2)))] (vA (vi (n := T - 2) (by omega)) trivial) rfl fun _ => ?_
  refine ab 3 rfl ?_
  refine aa ?_
  refine wm (.pointer (some ⟨b6, 0, none⟩)) rfl rfl rfl ?_
  refine az (am rfl rfl rfl) rfl rfl (m4.cm ex (⟨lX.n⟩ : DigT) (14) (HS.callOwn h5 (i := 2) rfl) (by omega) (by omega) hT (by omega)) ?_
  rintro _ rl ⟨ad, lY, dk, f7, kG, rfl, o8, rD⟩
  replace kG : HS _ _ _ [_, _, [(b6, .cells [(iI lY.n)] none false)], _, _, _, _] _ := HS.backOwn h5 (i := 2) rfl rfl (fun _ hb => hb) kG
  replace hT := hT.mono f7
  replace b2 := (b2.mono f5).mono f7
  replace E := (E.mono f5).mono f7
  refine wa (iI ad) rfl rfl rfl ?_
  refine ab 3 rfl ?_
  refine wR 1 [] 79 81 [] [(79, (.bool (ad == 0)))] trivial rfl fun _ => ?_
  obtain ⟨ch, ag, a8⟩ := SF.shut0 l1 (fT (f5) f7) kG (q := 5) (m := 6) (by decide) rfl rfl b2
  have ag : HS _ _ _ [_, _, _, _, _, ch, []] _ := ag
  have qQ := FAM.len a8
  refine aY (fun f H' => ∃ (a7 : List BlkH) (dv : List (List VInT)) (pq : Int) (rq : Int) (b0 : Fp) (a5 : Option Addr) (a6 : Nat) (dt : Fp) (F' : Fz), Fz.le dk F' ∧ HS (Base.of H []) F' H' [h8, ib, [(b6, .cells [(iI lY.n)] none false)], [(b9, .cells [(iI pq), (iI rq), (.slice a5 a7.length a6)] none false)], b0, dt, []] R ∧ OS F' (.slice a5 a7.length a6) a7 b0 ∧ SF F' a7 dv dt ∧ aH f [(6, (.pointer (some ⟨b3, 0, none⟩))), (8, (.pointer (some ⟨b9, 0, none⟩)))] ∧ (in64 pq ∧ in64 rq) ∧ (a7.length ≤ 1000) ∧ (∀ m, (∀ j, okI m (c.blocks.getD j default).ins) → ∀ y ∈ dv, okI (m + 1) y)) (fun a9 => ?_) ?_
  ·
   refine ap 0 1 (v := (ad == 0)) rfl rfl rfl rfl (fun kr => ?_) (fun kr => ?_)
   ·
    have lQ := kr
    try simp only [BS] at lQ
    refine aa ?_
    refine wRo 2 0 [] 82 83 [] [(82, (iI (T - 2))), (83, (.pointer (some ⟨b9, 0, none⟩)))] trivial rfl fun _ => ?_
    refine aF (aw (q := 3) ag rfl rfl rfl rfl rfl rfl rfl rfl rfl) rfl ?_
    rintro _ rn _ ⟨(oy : HS _ _ _ [_, _, _, [(b9, .cells [(iI (T - 2)), (iI c.regs), (.slice z hv.length A)] none false)], _, _, _] _), _⟩
    refine ab 0 rfl ?_
    exact a9 _ _ ⟨hv, lv, T - 2, c.regs, N, z, A, ch, _, fR, oy, E, a8, ⟨rfl, rfl, trivial⟩, (by omega), (by omega), (by exact fun m hm => by exact il (e4 m hm))⟩
   have lQ := kr
   try simp only [BS] at lQ
   refine wR 1 [] 84 86 [] [(84, (.bool (ad == 1)))] trivial rfl fun _ => ?_
   refine ap 0 1 (v := (ad == 1)) rfl rfl rfl rfl (fun kt => ?_) (fun kt => ?_)
   ·
    have lR := kt
    try simp only [BS] at lR
    refine aa ?_
    refine wRo 2 0 [] 87 88 [] [(87, (iI (T - 2))), (88, (.pointer (some ⟨b9, 1, none⟩)))] trivial rfl fun _ => ?_
    refine aF (aw (q := 3) ag rfl rfl rfl rfl rfl rfl rfl rfl rfl) rfl ?_
    rintro _ rp _ ⟨(oz : HS _ _ _ [_, _, _, [(b9, .cells [(iI c.params), (iI (T - 2)), (.slice z hv.length A)] none false)], _, _, _] _), _⟩
    refine ab 0 rfl ?_
    exact a9 _ _ ⟨hv, lv, c.params, T - 2, N, z, A, ch, _, fR, oz, E, a8, ⟨rfl, rfl, trivial⟩, (by omega), (by omega), (by exact fun m hm => by exact il (e4 m hm))⟩
   have lR := kt
   try simp only [BS] at lR
   refine wR 1 [] 89 91 [] [(89, (.bool (ad == 2)))] trivial rfl fun _ => ?_
   refine ap 0 1 (v := (ad == 2)) rfl rfl rfl rfl (fun ku => ?_) (fun ku => ?_)
   ·
    have lS := ku
    try simp only [BS] at lS
    refine aa ?_
    refine wRo 4 0 [] 92 95 [] [(93, (iI (T - 2))), (95, (.pointer (some ⟨sB (.slice z hv.length A), sO (.slice z hv.length A) + ii * Rp.sz BlkH + 1, none⟩)))] trivial rfl fun _ => ?_
    have oh := SF.put (⟨(hv.getD ii default).h, T - 2, (hv.getD ii default).reg, (hv.getD ii default).tgt, (hv.getD ii default).els⟩ : BlkH) a8 (i := ii) rfl
    refine aF (dF (α := BlkH) (j := ii) (off := 1) (q := 4) (⟨(hv.getD ii default).h, T - 2, (hv.getD ii default).reg, (hv.getD ii default).tgt, (hv.getD ii default).els⟩ : BlkH) E ag rfl rfl rfl rfl rfl rfl rfl rfl (aK (x := default) (by omega)) rfl (by rintro cs ⟨rfl, ay, a0, a1, a2⟩; exact ⟨Nat.le_of_ble_eq_true rfl, ⟨rfl, by (dsimp only; omega), a0, a1, a2⟩⟩)) rfl ?_
    rintro _ rr nZ ⟨l5, (oD : HS _ _ _ [_, _, _, _, nZ, _, _] _), _⟩
    have pN := OS.len' l5
    refine ab 0 rfl ?_
    exact a9 _ _ ⟨hv.set ii (⟨(hv.getD ii default).h, T - 2, (hv.getD ii default).reg, (hv.getD ii default).tgt, (hv.getD ii default).els⟩ : BlkH), lv, c.params, c.regs, nZ, z, A, ch, _, fR, (by simpa only [List.length_set] using oD), (OS.norm l5), oh, ⟨rfl, rfl, trivial⟩, (by omega), (by omega), (by exact fun m hm => by exact il (e4 m hm))⟩
   have lS := ku
   try simp only [BS] at lS
   refine wR 1 [] 96 98 [] [(96, (.bool (ad == 3)))] trivial rfl fun _ => ?_
   refine ap 0 1 (v := (ad == 3)) rfl rfl rfl rfl (fun kv => ?_) (fun kv => ?_)
   ·
    have lT := kv
    try simp only [BS] at lT
    refine aa ?_
    refine wRo 4 0 [] 99 102 [] [(100, (iI (T - 2))), (102, (.pointer (some ⟨sB (.slice z hv.length A), sO (.slice z hv.length A) + ii * Rp.sz BlkH + 2, none⟩)))] trivial rfl fun _ => ?_
    have oi := SF.put (⟨(hv.getD ii default).h, (hv.getD ii default).fin, T - 2, (hv.getD ii default).tgt, (hv.getD ii default).els⟩ : BlkH) a8 (i := ii) rfl
    refine aF (dF (α := BlkH) (j := ii) (off := 2) (q := 4) (⟨(hv.getD ii default).h, (hv.getD ii default).fin, T - 2, (hv.getD ii default).tgt, (hv.getD ii default).els⟩ : BlkH) E ag rfl rfl rfl rfl rfl rfl rfl rfl (aK (x := default) (by omega)) rfl (by rintro cs ⟨rfl, ay, a0, a1, a2⟩; exact ⟨Nat.le_of_ble_eq_true rfl, ⟨rfl, ay, by (dsimp only; omega), a1, a2⟩⟩)) rfl ?_
    rintro _ rt n1 ⟨l6, (oE : HS _ _ _ [_, _, _, _, n1, _, _] _), _⟩
    have pO := OS.len' l6
    refine ab 0 rfl ?_
    exact a9 _ _ ⟨hv.set ii (⟨(hv.getD ii default).h, (hv.getD ii default).fin, T - 2, (hv.getD ii default).tgt, (hv.getD ii default).els⟩ : BlkH), lv, c.params, c.regs, n1, z, A, ch, _, fR, (by simpa only [List.length_set] using oE), (OS.norm l6), oi, ⟨rfl, rfl, trivial⟩, (by omega), (by omega), (by exact fun m hm => by exact il (e4 m hm))⟩
   have lT := kv
   try simp only [BS] at lT
   refine wR 1 [] 103 105 [] [(103, (.bool (ad == 4)))] trivial rfl fun _ => ?_
   refine ap 0 1 (v := (ad == 4)) rfl rfl rfl rfl (fun kw => ?_) (fun kw => ?_)
   ·
    have lU := kw
    try simp only [BS] at lU
    refine aa ?_
    refine wRo 4 0 [] 106 109 [] [(107, (iI (T - 2))), (109, (.pointer (some ⟨sB (.slice z hv.length A), sO (.slice z hv.length A) + ii * Rp.sz BlkH + 3, none⟩)))] trivial rfl fun _ => ?_
    have oj := SF.put (⟨(hv.getD ii default).h, (hv.getD ii default).fin, (hv.getD ii default).reg, T - 2, (hv.getD ii default).els⟩ : BlkH) a8 (i := ii) rfl
    refine aF (dF (α := BlkH) (j := ii) (off := 3) (q := 4) (⟨(hv.getD ii default).h, (hv.getD ii default).fin, (hv.getD ii default).reg, T - 2, (hv.getD ii default).els⟩ : BlkH) E ag rfl rfl rfl rfl rfl rfl rfl rfl (aK (x := default) (by omega)) rfl (by rintro cs ⟨rfl, ay, a0, a1, a2⟩; exact ⟨Nat.le_of_ble_eq_true rfl, ⟨rfl, ay, a0, by (dsimp only; omega), a2⟩⟩)) rfl ?_
    rintro _ ru n2 ⟨l7, (oF : HS _ _ _ [_, _, _, _, n2, _, _] _), _⟩
    have pP := OS.len' l7
    refine ab 0 rfl ?_
    exact a9 _ _ ⟨hv.set ii (⟨(hv.getD ii default).h, (hv.getD ii default).fin, (hv.getD ii default).reg, T - 2, (hv.getD ii default).els⟩ : BlkH), lv, c.params, c.regs, n2, z, A, ch, _, fR, (by simpa only [List.length_set] using oF), (OS.norm l7), oj, ⟨rfl, rfl, trivial⟩, (by omega), (by omega), (by exact fun m hm => by exact il (e4 m hm))⟩
   have lU := kw
   try simp only [BS] at lU
   refine wR 1 [] 110 112 [] [(110, (.bool (ad == 5)))] trivial rfl fun _ => ?_
   refine ap 0 1 (v := (ad == 5)) rfl rfl rfl rfl (fun kx => ?_) (fun kx => ?_)
   ·
    have lV := kx
    try simp only [BS] at lV
    refine aa ?_
    refine wRo 4 0 [] 113 116 [] [(114, (iI (T - 2))), (116, (.pointer (some ⟨sB (.slice z hv.length A), sO (.slice z hv.length A) + ii * Rp.sz BlkH + 4, none⟩)))] trivial rfl fun _ => ?_
    have ol := SF.put (⟨(hv.getD ii default).h, (hv.getD ii default).fin, (hv.getD ii default).reg, (hv.getD ii default).tgt, T - 2⟩ : BlkH) a8 (i := ii) rfl
    refine aF (dF (α := BlkH) (j := ii) (off := 4) (q := 4) (⟨(hv.getD ii default).h, (hv.getD ii default).fin, (hv.getD ii default).reg, (hv.getD ii default).tgt, T - 2⟩ : BlkH) E ag rfl rfl rfl rfl rfl rfl rfl rfl (aK (x := default) (by omega)) rfl (by rintro cs ⟨rfl, ay, a0, a1, a2⟩; exact ⟨Nat.le_of_ble_eq_true rfl, ⟨rfl, ay, a0, a1, by (dsimp only; omega)⟩⟩)) rfl ?_
    rintro _ rv n3 ⟨l8, (oG : HS _ _ _ [_, _, _, _, n3, _, _] _), _⟩
    have pQ := OS.len' l8
    refine ab 0 rfl ?_
    exact a9 _ _ ⟨hv.set ii (⟨(hv.getD ii default).h, (hv.getD ii default).fin, (hv.getD ii default).reg, (hv.getD ii default).tgt, T - 2⟩ : BlkH), lv, c.params, c.regs, n3, z, A, ch, _, fR, (by simpa only [List.length_set] using oG), (OS.norm l8), ol, ⟨rfl, rfl, trivial⟩, (by omega), (by omega), (by exact fun m hm => by exact il (e4 m hm))⟩
   have lV := kx
   try simp only [BS] at lV
   refine wR 1 [] 117 119 [] [(117, (.bool (ad == 6)))] trivial rfl fun _ => ?_
   refine ap 0 1 (v := (ad == 6)) rfl rfl rfl rfl (fun ky => ?_) (fun ky => ?_)
   ·
    have lW := ky
    try simp only [BS] at lW
    obtain ⟨od, lZ, kH, hB, oe⟩ := SF.open a8 ag (q := 5) (i := ii) rfl (by omega)
    have kH : HS _ _ _ [_, _, _, _, _, od, _, lZ] _ := kH
    have hB : OS dk (.slice (hv.getD ii default).h.a (hv.getD ii default).h.n (hv.getD ii default).h.k) (lv.getD ii default) lZ := hB
    have q3 := OS.nlen hB
    refine aa ?_
    refine wRo 5 0 [] 120 124 [] [(121, (iI (T - 2))), (124, (.pointer (some ⟨sB (.slice (hv.getD ii default).h.a (hv.getD ii default).h.n (hv.getD ii default).h.k), sO (.slice (hv.getD ii default).h.a (hv.getD ii default).h.n (hv.getD ii default).h.k) + kk * Rp.sz VInT, none⟩)))] trivial rfl fun _ => ?_
    refine aF (dF (α := VInT) (j := kk) (off := 0) (q := 7) (⟨(⟨T - 2, ((lv.getD ii default).getD kk default).i.a, ((lv.getD ii default).getD kk default).i.b, ((lv.getD ii default).getD kk default).i.c, ((lv.getD ii default).getD kk default).i.n⟩ : InsT), ((lv.getD ii default).getD kk default).args⟩ : VInT) hB kH rfl rfl rfl rfl rfl rfl rfl rfl (aK (x := default) (by omega)) rfl (by rintro cs ⟨c5, c8, rfl, c6, ay, a0, a1, a2, c7⟩; exact ⟨Nat.le_of_ble_eq_true rfl, ⟨c5, c8, rfl, by (dsimp only; omega), ay, a0, a1, a2, c7⟩⟩)) rfl ?_
    rintro _ rx pm ⟨l9, (oH : HS _ _ _ [_, _, _, _, _, _, _, pm] _), _⟩
    have pR := OS.len' l9
    refine ab 0 rfl ?_
    obtain ⟨kT, hC, k7⟩ := SF.shut oe fR oH (q := 5) (m := 7) (by decide) rfl rfl l9
    have hC : HS _ _ _ [_, _, _, _, _, kT, _, []] _ := hC
    have pn := FAM.len k7
    exact a9 _ _ ⟨hv, lv.set ii ((lv.getD ii default).set kk (⟨(⟨T - 2, ((lv.getD ii default).getD kk default).i.a, ((lv.getD ii default).getD kk default).i.b, ((lv.getD ii default).getD kk default).i.c, ((lv.getD ii default).getD kk default).i.n⟩ : InsT), ((lv.getD ii default).getD kk default).args⟩ : VInT)), c.params, c.regs, N, z, A, kT, _, fR, (HS.sub hC (List.sublist_append_left _ _)), E, k7, ⟨rfl, rfl, trivial⟩, (by omega), (by omega), (by exact fun m hm => by exact i7 (e4 m hm) (Nat.le_succ_of_le (el (cI (e4 m hm)))))⟩
   have lW := ky
   try simp only [BS] at lW
   refine wR 1 [] 125 127 [] [(125, (.bool (ad == 7)))] trivial rfl fun _ => ?_
   refine ap 0 1 (v := (ad == 7)) rfl rfl rfl rfl (fun g0 => ?_) (fun g0 => ?_)
   ·
    have it := g0
    try simp only [BS] at it
    obtain ⟨mO, kO, hD, ez, mV⟩ := SF.open a8 ag (q := 5) (i := ii) rfl (by omega)
    have hD : HS _ _ _ [_, _, _, _, _, mO, _, kO] _ := hD
    have ez : OS dk (.slice (hv.getD ii default).h.a (hv.getD ii default).h.n (hv.getD ii default).h.k) (lv.getD ii default) kO := ez
    have pW := OS.nlen ez
    refine aa ?_
    refine wRo 5 0 [] 128 132 [] [(129, (iI (T - 2))), (132, (.pointer (some ⟨sB (.slice (hv.getD ii default).h.a (hv.getD ii default).h.n (hv.getD ii default).h.k), sO (.slice (hv.getD ii default).h.a (hv.getD ii default).h.n (hv.getD ii default).h.k) + kk * Rp.sz VInT + 1, none⟩)))] trivial rfl fun _ => ?_
    refine aF (dF (α := VInT) (j := kk) (off := 1) (q := 7) (⟨(⟨((lv.getD ii default).getD kk default).i.op, T - 2, ((lv.getD ii default).getD kk default).i.b, ((lv.getD ii default).getD kk default).i.c, ((lv.getD ii default).getD kk default).i.n⟩ : InsT), ((lv.getD ii default).getD kk default).args⟩ : VInT) ez hD rfl rfl rfl rfl rfl rfl rfl rfl (aK (x := default) (by omega)) rfl (by rintro cs ⟨c5, c8, rfl, c6, ay, a0, a1, a2, c7⟩; exact ⟨Nat.le_of_ble_eq_true rfl, ⟨c5, c8, rfl, c6, by (dsimp only; omega), a0, a1, a2, c7⟩⟩)) rfl ?_
    rintro _ qa oP ⟨lj, (nr : HS _ _ _ [_, _, _, _, _, _, _, oP] _), _⟩
    have o9 := OS.len' lj
    refine ab 0 rfl ?_
    obtain ⟨kU, hE, k8⟩ := SF.shut mV fR nr (q := 5) (m := 7) (by decide) rfl rfl lj
    have hE : HS _ _ _ [_, _, _, _, _, kU, _, []] _ := hE
    have po := FAM.len k8
    exact a9 _ _ ⟨hv, lv.set ii ((lv.getD ii default).set kk (⟨(⟨((lv.getD ii default).getD kk default).i.op, T - 2, ((lv.getD ii default).getD kk default).i.b, ((lv.getD ii default).getD kk default).i.c, ((lv.getD ii default).getD kk default).i.n⟩ : InsT), ((lv.getD ii default).getD kk default).args⟩ : VInT)), c.params, c.regs, N, z, A, kU, _, fR, (HS.sub hE (List.sublist_append_left _ _)), E, k8, ⟨rfl, rfl, trivial⟩, (by omega), (by omega), (by exact fun m hm => by exact i7 (e4 m hm) (Nat.le_succ_of_le (el (cI (e4 m hm)))))⟩
   have it := g0
   try simp only [BS] at it
   refine wR 1 [] 133 135 [] [(133, (.bool (ad == 8)))] trivial rfl fun _ => ?_
   refine ap 0 1 (v := (ad == 8)) rfl rfl rfl rfl (fun g1 => ?_) (fun g1 => ?_)
   ·
    have iv := g1
    try simp only [BS] at iv
    obtain ⟨mP, kP, hF, e0, mW⟩ := SF.open a8 ag (q := 5) (i := ii) rfl (by omega)
    have hF : HS _ _ _ [_, _, _, _, _, mP, _, kP] _ := hF
    have e0 : OS dk (.slice (hv.getD ii default).h.a (hv.getD ii default).h.n (hv.getD ii default).h.k) (lv.getD ii default) kP := e0
    have pX := OS.nlen e0
    refine aa ?_
    refine wRo 5 0 [] 136 140 [] [(137, (iI (T - 2))), (140, (.pointer (some ⟨sB (.slice (hv.getD ii default).h.a (hv.getD ii default).h.n (hv.getD ii default).h.k), sO (.slice (hv.getD ii default).h.a (hv.getD ii default).h.n (hv.getD ii default).h.k) + kk * Rp.sz VInT + 2, none⟩)))] trivial rfl fun _ => ?_
    refine aF (dF (α := VInT) (j := kk) (off := 2) (q := 7) (⟨(⟨((lv.getD ii default).getD kk default).i.op, ((lv.getD ii default).getD kk default).i.a, T - 2, ((lv.getD ii default).getD kk default).i.c, ((lv.getD ii default).getD kk default).i.n⟩ : InsT), ((lv.getD ii default).getD kk default).args⟩ : VInT) e0 hF rfl rfl rfl rfl rfl rfl rfl rfl (aK (x := default) (by omega)) rfl (by rintro cs ⟨c5, c8, rfl, c6, ay, a0, a1, a2, c7⟩; exact ⟨Nat.le_of_ble_eq_true rfl, ⟨c5, c8, rfl, c6, ay, by (dsimp only; omega), a1, a2, c7⟩⟩)) rfl ?_
    rintro _ qb oQ ⟨ll, (ns : HS _ _ _ [_, _, _, _, _, _, _, oQ] _), _⟩
    have pb := OS.len' ll
    refine ab 0 rfl ?_
    obtain ⟨kV, hG, k9⟩ := SF.shut mW fR ns (q := 5) (m := 7) (by decide) rfl rfl ll
    have hG : HS _ _ _ [_, _, _, _, _, kV, _, []] _ := hG
    have pr := FAM.len k9
    exact a9 _ _ ⟨hv, lv.set ii ((lv.getD ii default).set kk (⟨(⟨((lv.getD ii default).getD kk default).i.op, ((lv.getD ii default).getD kk default).i.a, T - 2, ((lv.getD ii default).getD kk default).i.c, ((lv.getD ii default).getD kk default).i.n⟩ : InsT), ((lv.getD ii default).getD kk default).args⟩ : VInT)), c.params, c.regs, N, z, A, kV, _, fR, (HS.sub hG (List.sublist_append_left _ _)), E, k9, ⟨rfl, rfl, trivial⟩, (by omega), (by omega), (by exact fun m hm => by exact i7 (e4 m hm) (Nat.le_succ_of_le (el (cI (e4 m hm)))))⟩
   have iv := g1
   try simp only [BS] at iv
   refine wR 1 [] 141 143 [] [(141, (.bool (ad == 9)))] trivial rfl fun _ => ?_
   refine ap 0 1 (v := (ad == 9)) rfl rfl rfl rfl (fun g2 => ?_) (fun g2 => ?_)
   ·
    have iz := g2
    try simp only [BS] at iz
    obtain ⟨mQ, kQ, hH, e5, mX⟩ := SF.open a8 ag (q := 5) (i := ii) rfl (by omega)
    have hH : HS _ _ _ [_, _, _, _, _, mQ, _, kQ] _ := hH
    have e5 : OS dk (.slice (hv.getD ii default).h.a (hv.getD ii default).h.n (hv.getD ii default).h.k) (lv.getD ii default) kQ := e5
    have pY := OS.nlen e5
    refine aa ?_
    refine wRo 5 0 [] 144 148 [] [(145, (iI (T - 2))), (148, (.pointer (some ⟨sB (.slice (hv.getD ii default).h.a (hv.getD ii default).h.n (hv.getD ii default).h.k), sO (.slice (hv.getD ii default).h.a (hv.getD ii default).h.n (hv.getD ii default).h.k) + kk * Rp.sz VInT + 3, none⟩)))] trivial rfl fun _ => ?_
    refine aF (dF (α := VInT) (j := kk) (off := 3) (q := 7) (⟨(⟨((lv.getD ii default).getD kk default).i.op, ((lv.getD ii default).getD kk default).i.a, ((lv.getD ii default).getD kk default).i.b, T - 2, ((lv.getD ii default).getD kk default).i.n⟩ : InsT), ((lv.getD ii default).getD kk default).args⟩ : VInT) e5 hH rfl rfl rfl rfl rfl rfl rfl rfl (aK (x := default) (by omega)) rfl (by rintro cs ⟨c5, c8, rfl, c6, ay, a0, a1, a2, c7⟩; exact ⟨Nat.le_of_ble_eq_true rfl, ⟨c5, c8, rfl, c6, ay, a0, by (dsimp only; omega), a2, c7⟩⟩)) rfl ?_
    rintro _ qc oR ⟨lm, (nt : HS _ _ _ [_, _, _, _, _, _, _, oR] _), _⟩
    have pc := OS.len' lm
    refine ab 0 rfl ?_
    obtain ⟨kW, hI, la⟩ := SF.shut mX fR nt (q := 5) (m := 7) (by decide) rfl rfl lm
    have hI : HS _ _ _ [_, _, _, _, _, kW, _, []] _ := hI
    have pu := FAM.len la
    exact a9 _ _ ⟨hv, lv.set ii ((lv.getD ii default).set kk (⟨(⟨((lv.getD ii default).getD kk default).i.op, ((lv.getD ii default).getD kk default).i.a, ((lv.getD ii default).getD kk default).i.b, T - 2, ((lv.getD ii default).getD kk default).i.n⟩ : InsT), ((lv.getD ii default).getD kk default).args⟩ : VInT)), c.params, c.regs, N, z, A, kW, _, fR, (HS.sub hI (List.sublist_append_left _ _)), E, la, ⟨rfl, rfl, trivial⟩, (by omega), (by omega), (by exact fun m hm => by exact i7 (e4 m hm) (Nat.le_succ_of_le (el (cI (e4 m hm)))))⟩
   have iz := g2
   try simp only [BS] at iz
   refine wR 1 [] 149 151 [] [(149, (.bool (ad == 10)))] trivial rfl fun _ => ?_
   refine ap 0 1 (v := (ad == 10)) rfl rfl rfl rfl (fun g3 => ?_) (fun g3 => ?_)
   ·
    have i1 := g3
    try simp only [BS] at i1
    obtain ⟨mR, kR, e6, co, mY⟩ := SF.open a8 ag (q := 5) (i := ii) rfl (by omega)
    have e6 : HS _ _ _ [_, _, _, _, _, mR, _, kR] _ := e6
    have co : OS dk (.slice (hv.getD ii default).h.a (hv.getD ii default).h.n (hv.getD ii default).h.k) (lv.getD ii default) kR := co
    have pZ := OS.nlen co
    refine aa ?_
    refine wRo 2 0 [] 152 153 [] [(152, (.pointer (some ⟨sB (.slice (hv.getD ii default).h.a (hv.getD ii default).h.n (hv.getD ii default).h.k), sO (.slice (hv.getD ii default).h.a (hv.getD ii default).h.n (hv.getD ii default).h.k) + kk * Rp.sz VInT, none⟩))), (153, (iI (T - 2)))] trivial rfl fun _ => ?_
    refine az (am rfl rfl rfl) rfl rfl (m4.word_c ex (T - 2) (1099511627776) (HS.call e6) (by omega) (by omega) hT) ?_
    rintro _ qd ⟨mH, p1, d4, hK, rfl, qT⟩
    replace hK : HS _ _ _ [_, _, _, _, _, _, _, _] _ := HS.back e6 rfl hK
    replace co := co.mono d4
    replace E := E.mono d4
    refine wRo 3 3 [] 155 157 [] [(157, (.pointer (some ⟨sB (.slice (hv.getD ii default).h.a (hv.getD ii default).h.n (hv.getD ii default).h.k), sO (.slice (hv.getD ii default).h.a (hv.getD ii default).h.n (hv.getD ii default).h.k) + kk * Rp.sz VInT + 4, none⟩)))] trivial rfl fun _ => ?_
    refine aF (dF (α := VInT) (j := kk) (off := 4) (q := 7) (⟨(⟨((lv.getD ii default).getD kk default).i.op, ((lv.getD ii default).getD kk default).i.a, ((lv.getD ii default).getD kk default).i.b, ((lv.getD ii default).getD kk default).i.c, mH⟩ : InsT), ((lv.getD ii default).getD kk default).args⟩ : VInT) co hK rfl rfl rfl rfl rfl rfl rfl rfl (aK (x := default) (by omega)) rfl (by rintro cs ⟨c5, c8, rfl, c6, ay, a0, a1, a2, c7⟩; exact ⟨Nat.le_of_ble_eq_true rfl, ⟨c5, c8, rfl, c6, ay, a0, a1, by omega, c7⟩⟩)) rfl ?_
    rintro _ qe oT ⟨ln, (nu : HS _ _ _ [_, _, _, _, _, _, _, oT] _), _⟩
    have pd := OS.len' ln
    refine ab 0 rfl ?_
    obtain ⟨kX, hM, lb⟩ := SF.shut mY (d4) nu (q := 5) (m := 7) (by decide) rfl rfl ln
    have hM : HS _ _ _ [_, _, _, _, _, kX, _, []] _ := hM
    have pw := FAM.len lb
    exact a9 _ _ ⟨hv, lv.set ii ((lv.getD ii default).set kk (⟨(⟨((lv.getD ii default).getD kk default).i.op, ((lv.getD ii default).getD kk default).i.a, ((lv.getD ii default).getD kk default).i.b, ((lv.getD ii default).getD kk default).i.c, mH⟩ : InsT), ((lv.getD ii default).getD kk default).args⟩ : VInT)), c.params, c.regs, N, z, A, kX, _, (d4), (HS.sub hM (List.sublist_append_left _ _)), E, lb, ⟨rfl, rfl, trivial⟩, (by omega), (by omega), (by exact fun m hm => by exact i7 (e4 m hm) (Nat.le_succ_of_le (el (cI (e4 m hm)))))⟩
   have i1 := g3
   try simp only [BS] at i1
   refine wR 1 [] 158 160 [] [(158, (.bool (ad == 11)))] trivial rfl fun _ => ?_
   refine ap 0 1 (v := (ad == 11)) rfl rfl rfl rfl (fun g4 => ?_) (fun g4 => ?_)
   ·
    have i2 := g4
    try simp only [BS] at i2
    obtain ⟨mS, kS, fd, b7, mZ⟩ := SF.open a8 ag (q := 5) (i := ii) rfl (by omega)
    have fd : HS _ _ _ [_, _, _, _, _, mS, _, kS] _ := fd
    have b7 : OS dk (.slice (hv.getD ii default).h.a (hv.getD ii default).h.n (hv.getD ii default).h.k) (lv.getD ii default) kS := b7
    have p0 := OS.nlen b7
    refine aa ?_
    obtain ⟨d3, lF⟩ := Sv.view (OS.sv b7 fd (i := 7) rfl)
    obtain ⟨o2, o3, o4, o5, o6, mJ⟩ := VInT.fx (lF kk)
    refine wRo 5 0 [(4, .o (.slice (cA (d3 kk) 5) ((lv.getD ii default).getD kk default).args.length (cK (d3 kk) 5)))] 161 165 [] [(161, (.pointer (some ⟨sB (.slice (hv.getD ii default).h.a (hv.getD ii default).h.n (hv.getD ii default).h.k), sO (.slice (hv.getD ii default).h.a (hv.getD ii default).h.n (hv.getD ii default).h.k) + kk * Rp.sz VInT, none⟩))), (165, (.slice (cA (d3 kk) 5) ((lv.getD ii default).getD kk default).args.length (cK (d3 kk) 5)))] (vA (ql 25 5 (VInT.vw (lF kk) (by omega)) rfl rfl) trivial) rfl fun _ => ?_
    have fi := HS.snoc fd
    have fi : HS _ _ _ [_, _, _, _, _, _, _, _, []] _ := fi
    refine aC (aW (α := Int) (q := 8) (OS.nil : OS dk (.slice none 0 0) ([] : List Int) []) fi rfl rfl rfl (SR.sv mJ fi) rfl rfl rfl rfl rfl rfl rfl (by (simp only [List.length_append, List.length_cons, List.length_nil]; first | omega | (have hq := el (i := kk) (cI (i := ii) e2); omega)))) rfl rfl ?_
    rintro _ qf mA ⟨n8, oL, rfl, hw, (nv : HS _ _ _ [_, _, _, _, _, _, _, _, mA] _), _⟩
    have hw : OS dk (.slice n8 ((lv.getD ii default).getD kk default).args.length oL) ((lv.getD ii default).getD kk default).args mA := hw
    refine wm (iI (T - 2)) rfl rfl rfl ?_
    refine aC (aP (α := Int) (ps := [(0, (iI (T - 2)))]) (cells := [(iI (T - 2))]) ([T - 2] : List Int) nv rfl rfl rfl (by kernel_rfl) ⟨[(iI (T - 2))], [], rfl, ⟨rfl, by omega⟩, rfl⟩ rfl) rfl rfl ?_
    rintro _ qg oU ⟨qJ, q0, rfl, nh, (lB : HS _ _ _ [_, _, _, _, _, _, _, _, _, oU] _), _⟩
    refine aC (aW (α := Int) (q := 8) hw lB rfl rfl rfl (OS.sv nh lB (i := 9) rfl) rfl rfl rfl rfl rfl rfl rfl (by (simp only [List.length_append, List.length_cons, List.length_nil]; first | omega | (have hq := el (i := kk) (cI (i := ii) e2); omega)))) rfl rfl ?_
    rintro _ qh oV ⟨n9, oM, rfl, ni, (nw : HS _ _ _ [_, _, _, _, _, _, _, _, oV, _] _), _⟩
    refine wRo 2 9 [] 170 171 [] [(171, (.pointer (some ⟨sB (.slice (hv.getD ii default).h.a (hv.getD ii default).h.n (hv.getD ii default).h.k), sO (.slice (hv.getD ii default).h.a (hv.getD ii default).h.n (hv.getD ii default).h.k) + kk * Rp.sz VInT + 5, none⟩)))] trivial rfl fun _ => ?_
    obtain ⟨p2, em, hQ, nm, pS⟩ := OS.frz ni nw (i := 8) rfl
    have hQ : HS _ _ _ [_, _, _, _, _, _, _, _, [], _] _ := hQ
    replace b7 := b7.mono em
    replace E := E.mono em
    refine aF (dF (α := VInT) (j := kk) (off := 5) (q := 7) (⟨(⟨((lv.getD ii default).getD kk default).i.op, ((lv.getD ii default).getD kk default).i.a, ((lv.getD ii default).getD kk default).i.b, ((lv.getD ii default).getD kk default).i.c, ((lv.getD ii default).getD kk default).i.n⟩ : InsT), ((lv.getD ii default).getD kk default).args ++ ([T - 2] : List Int)⟩ : VInT) b7 hQ rfl rfl rfl rfl rfl rfl rfl rfl (aK (x := default) (by omega)) rfl (by rintro cs ⟨c5, c8, rfl, c6, ay, a0, a1, a2, c7⟩; exact ⟨Nat.le_of_ble_eq_true rfl, ⟨n9, oM, rfl, c6, ay, a0, a1, a2, nm⟩⟩)) rfl ?_
    rintro _ qi oW ⟨lp, (nx : HS _ _ _ [_, _, _, _, _, _, _, oW, _, _] _), _⟩
    have pe := OS.len' lp
    refine ab 0 rfl ?_
    obtain ⟨kY, hS, lc⟩ := SF.shut mZ (em) nx (q := 5) (m := 7) (by decide) rfl rfl lp
    have hS : HS _ _ _ [_, _, _, _, _, kY, _, [], _, _] _ := hS
    have px := FAM.len lc
    exact a9 _ _ ⟨hv, lv.set ii ((lv.getD ii default).set kk (⟨(⟨((lv.getD ii default).getD kk default).i.op, ((lv.getD ii default).getD kk default).i.a, ((lv.getD ii default).getD kk default).i.b, ((lv.getD ii default).getD kk default).i.c, ((lv.getD ii default).getD kk default).i.n⟩ : InsT), ((lv.getD ii default).getD kk default).args ++ ([T - 2] : List Int)⟩ : VInT)), c.params, c.regs, N, z, A, kY, _, (em), (HS.sub hS (List.sublist_append_left _ _)), E, lc, ⟨rfl, rfl, trivial⟩, (by omega), (by omega), (by exact fun m hm => by exact i7 (e4 m hm) (ok_more (el (cI (e4 m hm)))))⟩
   have i2 := g4
   try simp only [BS] at i2
   refine wR 1 [] 172 174 [] [(172, (.bool (ad == 12)))] trivial rfl fun _ => ?_
   refine ap 0 0 (v := (ad == 12)) rfl rfl rfl rfl (fun g5 => ?_) (fun g5 => ?_)
   ·
    have i3 := g5
    try simp only [BS] at i3
    refine aa ?_
    refine wRo 8 0 [(1, .o (.slice z hv.length A)), (4, .o (.slice z hv.length A))] 175 182 [] [(176, (.slice z hv.length A)), (182, (iI (if (if (hv.length : Int) < T - 2 then (hv.length : Int) else T - 2) > (0 : Int) then (if (hv.length : Int) < T - 2 then (hv.length : Int) else T - 2) else (0 : Int))))] (vA (ql 22 2 (HS.hc ag (i := 3) rfl) rfl rfl) (vA (ql 22 2 (HS.hc ag (i := 3) rfl) rfl rfl) trivial)) rfl fun _ => ?_
    refine aC (rs_cutOt (α := BlkH) (j := (if (if (hv.length : Int) < T - 2 then (hv.length : Int) else T - 2) > (0 : Int) then (if (hv.length : Int) < T - 2 then (hv.length : Int) else T - 2) else (0 : Int)).toNat) E ag (q := 4) rfl rfl rfl rfl (optN (by omega)) (by omega)) rfl rfl ?_
    rintro _ _ _ ⟨lG, mx, rfl, es, nk⟩
    simp only at es; replace es := es.symm; subst es
    obtain ⟨kZ, mT, mM, ld⟩ := FAM.take (if (if (hv.length : Int) < T - 2 then (hv.length : Int) else T - 2) > (0 : Int) then (if (hv.length : Int) < T - 2 then (hv.length : Int) else T - 2) else (0 : Int)).toNat a8
    have hV := HS.open ag (i := 5) rfl (List.Perm.of_eq mM)
    have hV : HS _ _ _ [_, _, _, _, _, kZ, _, mT] _ := hV
    have py := FAM.len ld
    refine wRo 1 9 [] 184 184 [] [(184, (.pointer (some ⟨b9, 2, none⟩)))] trivial rfl fun _ => ?_
    refine aF (aw (q := 3) hV rfl rfl rfl rfl rfl rfl rfl rfl rfl) rfl ?_
    rintro _ qj _ ⟨(ny : HS _ _ _ [_, _, _, [(b9, .cells [(iI c.params), (iI c.regs), (.slice lG (hv.take (if (if (hv.length : Int) < T - 2 then (hv.length : Int) else T - 2) > (0 : Int) then (if (hv.length : Int) < T - 2 then (hv.length : Int) else T - 2) else (0 : Int)).toNat).length mx)] none false)], _, _, _, _] _), _⟩
    refine ab 0 rfl ?_
    exact a9 _ _ ⟨hv.take (if (if (hv.length : Int) < T - 2 then (hv.length : Int) else T - 2) > (0 : Int) then (if (hv.length : Int) < T - 2 then (hv.length : Int) else T - 2) else (0 : Int)).toNat, lv.take (if (if (hv.length : Int) < T - 2 then (hv.length : Int) else T - 2) > (0 : Int) then (if (hv.length : Int) < T - 2 then (hv.length : Int) else T - 2) else (0 : Int)).toNat, c.params, c.regs, N, lG, mx, kZ, _, fR, (HS.sub ny (List.sublist_append_left _ _)), nk, ld, ⟨rfl, rfl, trivial⟩, (by omega), (by (simp; omega)), (by exact fun m hm => by exact il (fun y hy => e4 m hm y (List.mem_of_mem_take hy)))⟩
   have i3 := g5
   try simp only [BS] at i3
   exact a9 _ _ ⟨hv, lv, c.params, c.regs, N, z, A, ch, _, fR, ag, E, a8, ⟨rfl, rfl, trivial⟩, (by omega), (by omega), (by exact fun m hm => by exact il (e4 m hm))⟩
  skip
  rintro rA rm ⟨a7, dv, pq, rq, b0, a5, a6, dt, q7, og, mr, ci, h7, l4, j0, j1, j2⟩
  refine au _ l4 (fun _ => ?_)
  clear l4
  have oZ := FAM.len h7
  refine aq 3 rfl ?_
  refine aa ?_
  let n6 : Value := (.agg ⟨[(iI pq), (iI rq), (.slice a5 a7.length a6)]⟩)
  refine wRo 1 0 [(0, .o n6)] 185 185 [] [(185, n6)] (vA (qn 24 0 3 (HS.hc mr (i := 3) rfl) rfl rfl rfl rfl) trivial) rfl fun _ => ?_
  refine aF (aw (q := 1) mr rfl rfl rfl rfl rfl rfl rfl rfl rfl) rfl ?_
  rintro _ qk _ ⟨(nz : HS _ _ _ [_, [(b3, .cells [(iI pq), (iI rq), (.slice a5 a7.length a6)] none false)], _, [(b9, .cells [(iI pq), (iI rq), (.slice a5 a7.length a6)] none false)], b0, dt, _] _), _⟩
  refine ab 1 rfl ?_
  obtain ⟨p3, k3, hW, m7⟩ := SF.freeze h7 nz (q := 5) rfl
  have hW : HS _ _ _ [_, _, _, _, _, [], _] _ := hW
  replace ci := ci.mono k3
  obtain ⟨p4, k4, f0, nn, pT⟩ := OS.frz ci hW (i := 4) rfl
  have f0 : HS _ _ _ [_, _, _, _, [], _, _] _ := f0
  have lz := blkH_rows nn (by omega) (fun i hi => SR.mono k4 (m7 i hi))
  have nQ := SR.len' lz
  have mk := SR.norm lz
  refine ah ⟨.inr rfl, _, (rC rfl (ldVN rfl rfl (HS.hc f0 (i := 1) rfl) rfl) rN), (⟨pq, rq, (blkZ a7 dv)⟩ : VFnT), a5, a6, _, (fT (fT (fT (fT (fT (f4) f5) f7) og) k3) k4), (HS.forget f0), (by simp only [nQ]; rfl), (by (dsimp only; omega)), (by (dsimp only; omega)), mk, (by exact Nat.le_trans blkZ_len j1), (by exact fun m hm => blkZ_ok (j2 m hm))⟩
 have lP := kp
 try simp only [BS] at lP
 refine aa ?_
 refine wRo 1 0 [] 72 72 [] [(72, (.agg ⟨[(iI 0), (iI 0), (iI 0), (iI 0), (iI 0), (.slice none 0 0)]⟩))] trivial rfl fun _ => ?_
 refine aC (be dd rfl rfl) rfl rfl ?_
 rintro _ qm _ ⟨ar, rfl, (lC : HS _ _ _ [_, _, _, _, _, _, _, [(ar, .cells [(iI 0), (iI 0), (iI 0), (iI 0), (iI 0), (.slice none 0 0)] none false)]] _), _⟩
 refine wa (.pointer (some ⟨ar, 0, none⟩)) rfl rfl rfl ?_
 refine ab 2 rfl ?_
 refine aa ?_
 refine wm (.pointer (some ⟨b6, 0, none⟩)) rfl rfl rfl ?_
 refine az (am rfl rfl rfl) rfl rfl (m4.cm ex (⟨how⟩ : DigT) (40) (HS.callOwn lC (i := 2) rfl) (by omega) (by omega) hT (by omega)) ?_
 rintro _ qo ⟨J, kM, p5, dl, f1, rfl, o0, qU⟩
 replace f1 : HS _ _ _ [_, _, [(b6, .cells [(iI kM.n)] none false)], _, _, _, _, _] _ := HS.backOwn lC (i := 2) rfl rfl (fun _ hb => hb) f1
 replace hT := hT.mono dl
 refine wRo 2 2 [] 76 76 [13] [(13, (iI (J - 2)))] (vA (vi (n := J - 2) (by omega)) trivial) rfl fun _ => ?_
 refine ab 3 rfl ?_
 refine aa ?_
 refine wm (.pointer (some ⟨b6, 0, none⟩)) rfl rfl rfl ?_
 refine az (am rfl rfl rfl) rfl rfl (m4.cm ex (⟨kM.n⟩ : DigT) (14) (HS.callOwn f1 (i := 2) rfl) (by omega) (by omega) hT (by omega)) ?_
 rintro _ qp ⟨U, kN, a3, dn, hX, rfl, o1, qV⟩
 replace hX : HS _ _ _ [_, _, [(b6, .cells [(iI kN.n)] none false)], _, _, _, _, _] _ := HS.backOwn f1 (i := 2) rfl rfl (fun _ hb => hb) hX
 replace hT := hT.mono dn
 replace b2 := (b2.mono dl).mono dn
 replace E := (E.mono dl).mono dn
 refine wa (iI U) rfl rfl rfl ?_
 refine ab 3 rfl ?_
 refine wR 1 [] 79 81 [] [(79, (.bool (U == 0)))] trivial rfl fun _ => ?_
 obtain ⟨av, V, Z⟩ := SF.shut0 l1 (fT (dl) dn) hX (q := 5) (m := 6) (by decide) rfl rfl b2
 have V : HS _ _ _ [_, _, _, _, _, av, [], _] _ := V
 have pz := FAM.len Z
 refine aY (fun f H' => ∃ (a7 : List BlkH) (dv : List (List VInT)) (pq : Int) (rq : Int) (lJ : Int) (lK : Int) (lL : Int) (lM : Int) (lN : Int) (bva : List Int) (bz : Fp) (al : Option Addr) (an : Nat) (bk : Option Addr) (bl : Nat) (c0 : Fp) (F' : Fz), Fz.le a3 F' ∧ HS (Base.of H []) F' H' [h8, ib, [(b6, .cells [(iI kN.n)] none false)], [(b9, .cells [(iI pq), (iI rq), (.slice al a7.length an)] none false)], bz, c0, [], [(ar, .cells [(iI lJ), (iI lK), (iI lL), (iI lM), (iI lN), (.slice bk bva.length bl)] none false)]] R ∧ OS F' (.slice al a7.length an) a7 bz ∧ SR F' (.slice bk bva.length bl) bva ∧ SF F' a7 dv c0 ∧ aH f [(6, (.pointer (some ⟨b3, 0, none⟩))), (8, (.pointer (some ⟨b9, 0, none⟩)))] ∧ (in64 pq ∧ in64 rq) ∧ (a7.length ≤ 1000) ∧ (∀ m, (∀ j, okI m (c.blocks.getD j default).ins) → ∀ y ∈ dv, okI (m + 1) y)) (fun ax => ?_) ?_
 ·
  refine ap 0 1 (v := (U == 0)) rfl rfl rfl rfl (fun g6 => ?_) (fun g6 => ?_)
  ·
   have ja := g6
   try simp only [BS] at ja
   refine aa ?_
   refine wRo 2 0 [] 82 83 [] [(82, (iI (J - 2))), (83, (.pointer (some ⟨b9, 0, none⟩)))] trivial rfl fun _ => ?_
   refine aF (aw (q := 3) V rfl rfl rfl rfl rfl rfl rfl rfl rfl) rfl ?_
   rintro _ qr _ ⟨(nA : HS _ _ _ [_, _, _, [(b9, .cells [(iI (J - 2)), (iI c.regs), (.slice z hv.length A)] none false)], _, _, _, _] _), _⟩
   refine ab 0 rfl ?_
   exact ax _ _ ⟨hv, lv, J - 2, c.regs, 0, 0, 0, 0, 0, ([] : List Int), N, z, A, none, 0, av, _, fR, nA, E, (SR.nil : SR a3 (.slice none 0 0) ([] : List Int)), Z, ⟨rfl, rfl, trivial⟩, (by omega), (by omega), (by exact fun m hm => by exact il (e4 m hm))⟩
  have ja := g6
  try simp only [BS] at ja
  refine wR 1 [] 84 86 [] [(84, (.bool (U == 1)))] trivial rfl fun _ => ?_
  refine ap 0 1 (v := (U == 1)) rfl rfl rfl rfl (fun g7 => ?_) (fun g7 => ?_)
  ·
   have jb := g7
   try simp only [BS] at jb
   refine aa ?_
   refine wRo 2 0 [] 87 88 [] [(87, (iI (J - 2))), (88, (.pointer (some ⟨b9, 1, none⟩)))] trivial rfl fun _ => ?_
   refine aF (aw (q := 3) V rfl rfl rfl rfl rfl rfl rfl rfl rfl) rfl ?_
   rintro _ qs _ ⟨(nB : HS _ _ _ [_, _, _, [(b9, .cells [(iI c.params), (iI (J - 2)), (.slice z hv.length A)] none false)], _, _, _, _] _), _⟩
   refine ab 0 rfl ?_
   exact ax _ _ ⟨hv, lv, c.params, J - 2, 0, 0, 0, 0, 0, ([] : List Int), N, z, A, none, 0, av, _, fR, nB, E, (SR.nil : SR a3 (.slice none 0 0) ([] : List Int)), Z, ⟨rfl, rfl, trivial⟩, (by omega), (by omega), (by exact fun m hm => by exact il (e4 m hm))⟩
  have jb := g7
  try simp only [BS] at jb
  refine wR 1 [] 89 91 [] [(89, (.bool (U == 2)))] trivial rfl fun _ => ?_
  refine ap 0 1 (v := (U == 2)) rfl rfl rfl rfl (fun g8 => ?_) (fun g8 => ?_)
  ·
   have jq := g8
   try simp only [BS] at jq
   refine aa ?_
   refine wRo 4 0 [] 92 95 [] [(93, (iI (J - 2))), (95, (.pointer (some ⟨sB (.slice z hv.length A), sO (.slice z hv.length A) + ii * Rp.sz BlkH + 1, none⟩)))] trivial rfl fun _ => ?_
   have na := SF.put (⟨(hv.getD ii default).h, J - 2, (hv.getD ii default).reg, (hv.getD ii default).tgt, (hv.getD ii default).els⟩ : BlkH) Z (i := ii) rfl
   refine aF (dF (α := BlkH) (j := ii) (off := 1) (q := 4) (⟨(hv.getD ii default).h, J - 2, (hv.getD ii default).reg, (hv.getD ii default).tgt, (hv.getD ii default).els⟩ : BlkH) E V rfl rfl rfl rfl rfl rfl rfl rfl (aK (x := default) (by omega)) rfl (by rintro cs ⟨rfl, ay, a0, a1, a2⟩; exact ⟨Nat.le_of_ble_eq_true rfl, ⟨rfl, by (dsimp only; omega), a0, a1, a2⟩⟩)) rfl ?_
   rintro _ qt mB ⟨lq, (nC : HS _ _ _ [_, _, _, _, mB, _, _, _] _), _⟩
   have pf := OS.len' lq
   refine ab 0 rfl ?_
   exact ax _ _ ⟨hv.set ii (⟨(hv.getD ii default).h, J - 2, (hv.getD ii default).reg, (hv.getD ii default).tgt, (hv.getD ii default).els⟩ : BlkH), lv, c.params, c.regs, 0, 0, 0, 0, 0, ([] : List Int), mB, z, A, none, 0, av, _, fR, (by simpa only [List.length_set, List.length_nil] using nC), (OS.norm lq), (SR.nil : SR a3 (.slice none 0 0) ([] : List Int)), na, ⟨rfl, rfl, trivial⟩, (by omega), (by omega), (by exact fun m hm => by exact il (e4 m hm))⟩
  have jq := g8
  try simp only [BS] at jq
  refine wR 1 [] 96 98 [] [(96, (.bool (U == 3)))] trivial rfl fun _ => ?_
  refine ap 0 1 (v := (U == 3)) rfl rfl rfl rfl (fun g9 => ?_) (fun g9 => ?_)
  ·
   have jw := g9
   try simp only [BS] at jw
   refine aa ?_
   refine wRo 4 0 [] 99 102 [] [(100, (iI (J - 2))), (102, (.pointer (some ⟨sB (.slice z hv.length A), sO (.slice z hv.length A) + ii * Rp.sz BlkH + 2, none⟩)))] trivial rfl fun _ => ?_
   have nc := SF.put (⟨(hv.getD ii default).h, (hv.getD ii default).fin, J - 2, (hv.getD ii default).tgt, (hv.getD ii default).els⟩ : BlkH) Z (i := ii) rfl
   refine aF (dF (α := BlkH) (j := ii) (off := 2) (q := 4) (⟨(hv.getD ii default).h, (hv.getD ii default).fin, J - 2, (hv.getD ii default).tgt, (hv.getD ii default).els⟩ : BlkH) E V rfl rfl rfl rfl rfl rfl rfl rfl (aK (x := default) (by omega)) rfl (by rintro cs ⟨rfl, ay, a0, a1, a2⟩; exact ⟨Nat.le_of_ble_eq_true rfl, ⟨rfl, ay, by (dsimp only; omega), a1, a2⟩⟩)) rfl ?_
   rintro _ qu mC ⟨lr, (nD : HS _ _ _ [_, _, _, _, mC, _, _, _] _), _⟩
   have pg := OS.len' lr
   refine ab 0 rfl ?_
   exact ax _ _ ⟨hv.set ii (⟨(hv.getD ii default).h, (hv.getD ii default).fin, J - 2, (hv.getD ii default).tgt, (hv.getD ii default).els⟩ : BlkH), lv, c.params, c.regs, 0, 0, 0, 0, 0, ([] : List Int), mC, z, A, none, 0, av, _, fR, (by simpa only [List.length_set, List.length_nil] using nD), (OS.norm lr), (SR.nil : SR a3 (.slice none 0 0) ([] : List Int)), nc, ⟨rfl, rfl, trivial⟩, (by omega), (by omega), (by exact fun m hm => by exact il (e4 m hm))⟩
  have jw := g9
  try simp only [BS] at jw
  refine wR 1 [] 103 105 [] [(103, (.bool (U == 4)))] trivial rfl fun _ => ?_
  refine ap 0 1 (v := (U == 4)) rfl rfl rfl rfl (fun ha => ?_) (fun ha => ?_)
  ·
   have kc := ha
   try simp only [BS] at kc
   refine aa ?_
   refine wRo 4 0 [] 106 109 [] [(107, (iI (J - 2))), (109, (.pointer (some ⟨sB (.slice z hv.length A), sO (.slice z hv.length A) + ii * Rp.sz BlkH + 3, none⟩)))] trivial rfl fun _ => ?_
   have ne := SF.put (⟨(hv.getD ii default).h, (hv.getD ii default).fin, (hv.getD ii default).reg, J - 2, (hv.getD ii default).els⟩ : BlkH) Z (i := ii) rfl
   refine aF (dF (α := BlkH) (j := ii) (off := 3) (q := 4) (⟨(hv.getD ii default).h, (hv.getD ii default).fin, (hv.getD ii default).reg, J - 2, (hv.getD ii default).els⟩ : BlkH) E V rfl rfl rfl rfl rfl rfl rfl rfl (aK (x := default) (by omega)) rfl (by rintro cs ⟨rfl, ay, a0, a1, a2⟩; exact ⟨Nat.le_of_ble_eq_true rfl, ⟨rfl, ay, a0, by (dsimp only; omega), a2⟩⟩)) rfl ?_
   rintro _ qv mD ⟨lu, (nE : HS _ _ _ [_, _, _, _, mD, _, _, _] _), _⟩
   have ph := OS.len' lu
   refine ab 0 rfl ?_
   exact ax _ _ ⟨hv.set ii (⟨(hv.getD ii default).h, (hv.getD ii default).fin, (hv.getD ii default).reg, J - 2, (hv.getD ii default).els⟩ : BlkH), lv, c.params, c.regs, 0, 0, 0, 0, 0, ([] : List Int), mD, z, A, none, 0, av, _, fR, (by simpa only [List.length_set, List.length_nil] using nE), (OS.norm lu), (SR.nil : SR a3 (.slice none 0 0) ([] : List Int)), ne, ⟨rfl, rfl, trivial⟩, (by omega), (by omega), (by exact fun m hm => by exact il (e4 m hm))⟩
  have kc := ha
  try simp only [BS] at kc
  refine wR 1 [] 110 112 [] [(110, (.bool (U == 5)))] trivial rfl fun _ => ?_
  refine ap 0 1 (v := (U == 5)) rfl rfl rfl rfl (fun he => ?_) (fun he => ?_)
  ·
   have kd := he
   try simp only [BS] at kd
   refine aa ?_
   refine wRo 4 0 [] 113 116 [] [(114, (iI (J - 2))), (116, (.pointer (some ⟨sB (.slice z hv.length A), sO (.slice z hv.length A) + ii * Rp.sz BlkH + 4, none⟩)))] trivial rfl fun _ => ?_
   have ng := SF.put (⟨(hv.getD ii default).h, (hv.getD ii default).fin, (hv.getD ii default).reg, (hv.getD ii default).tgt, J - 2⟩ : BlkH) Z (i := ii) rfl
   refine aF (dF (α := BlkH) (j := ii) (off := 4) (q := 4) (⟨(hv.getD ii default).h, (hv.getD ii default).fin, (hv.getD ii default).reg, (hv.getD ii default).tgt, J - 2⟩ : BlkH) E V rfl rfl rfl rfl rfl rfl rfl rfl (aK (x := default) (by omega)) rfl (by rintro cs ⟨rfl, ay, a0, a1, a2⟩; exact ⟨Nat.le_of_ble_eq_true rfl, ⟨rfl, ay, a0, a1, by (dsimp only; omega)⟩⟩)) rfl ?_
   rintro _ qw mE ⟨lw, (nF : HS _ _ _ [_, _, _, _, mE, _, _, _] _), _⟩
   have pi := OS.len' lw
   refine ab 0 rfl ?_
   exact ax _ _ ⟨hv.set ii (⟨(hv.getD ii default).h, (hv.getD ii default).fin, (hv.getD ii default).reg, (hv.getD ii default).tgt, J - 2⟩ : BlkH), lv, c.params, c.regs, 0, 0, 0, 0, 0, ([] : List Int), mE, z, A, none, 0, av, _, fR, (by simpa only [List.length_set, List.length_nil] using nF), (OS.norm lw), (SR.nil : SR a3 (.slice none 0 0) ([] : List Int)), ng, ⟨rfl, rfl, trivial⟩, (by omega), (by omega), (by exact fun m hm => by exact il (e4 m hm))⟩
  have kd := he
  try simp only [BS] at kd
  refine wR 1 [] 117 119 [] [(117, (.bool (U == 6)))] trivial rfl fun _ => ?_
  refine ap 0 1 (v := (U == 6)) rfl rfl rfl rfl (fun hf => ?_) (fun hf => ?_)
  ·
   have kg := hf
   try simp only [BS] at kg
   refine aa ?_
   refine wRo 5 0 [] 120 124 [] [(121, (iI (J - 2))), (124, (.pointer (some ⟨ar, 0, none⟩)))] trivial rfl fun _ => ?_
   refine aF (aw (q := 7) V rfl rfl rfl rfl rfl rfl rfl rfl rfl) rfl ?_
   rintro _ qx _ ⟨(nG : HS _ _ _ [_, _, _, _, _, _, _, [(ar, .cells [(iI (J - 2)), (iI 0), (iI 0), (iI 0), (iI 0), (.slice none 0 0)] none false)]] _), _⟩
   refine ab 0 rfl ?_
   exact ax _ _ ⟨hv, lv, c.params, c.regs, J - 2, 0, 0, 0, 0, ([] : List Int), N, z, A, none, 0, av, _, fR, nG, E, (SR.nil : SR a3 (.slice none 0 0) ([] : List Int)), Z, ⟨rfl, rfl, trivial⟩, (by omega), (by omega), (by exact fun m hm => by exact il (e4 m hm))⟩
  have kg := hf
  try simp only [BS] at kg
  refine wR 1 [] 125 127 [] [(125, (.bool (U == 7)))] trivial rfl fun _ => ?_
  refine ap 0 1 (v := (U == 7)) rfl rfl rfl rfl (fun hg => ?_) (fun hg => ?_)
  ·
   have ki := hg
   try simp only [BS] at ki
   refine aa ?_
   refine wRo 5 0 [] 128 132 [] [(129, (iI (J - 2))), (132, (.pointer (some ⟨ar, 1, none⟩)))] trivial rfl fun _ => ?_
   refine aF (aw (q := 7) V rfl rfl rfl rfl rfl rfl rfl rfl rfl) rfl ?_
   rintro _ qy _ ⟨(nH : HS _ _ _ [_, _, _, _, _, _, _, [(ar, .cells [(iI 0), (iI (J - 2)), (iI 0), (iI 0), (iI 0), (.slice none 0 0)] none false)]] _), _⟩
   refine ab 0 rfl ?_
   exact ax _ _ ⟨hv, lv, c.params, c.regs, 0, J - 2, 0, 0, 0, ([] : List Int), N, z, A, none, 0, av, _, fR, nH, E, (SR.nil : SR a3 (.slice none 0 0) ([] : List Int)), Z, ⟨rfl, rfl, trivial⟩, (by omega), (by omega), (by exact fun m hm => by exact il (e4 m hm))⟩
  have ki := hg
  try simp only [BS] at ki
  refine wR 1 [] 133 135 [] [(133, (.bool (U == 8)))] trivial rfl fun _ => ?_
  refine ap 0 1 (v := (U == 8)) rfl rfl rfl rfl (fun hh => ?_) (fun hh => ?_)
  ·
   have kj := hh
   try simp only [BS] at kj
   refine aa ?_
   refine wRo 5 0 [] 136 140 [] [(137, (iI (J - 2))), (140, (.pointer (some ⟨ar, 2, none⟩)))] trivial rfl fun _ => ?_
   refine aF (aw (q := 7) V rfl rfl rfl rfl rfl rfl rfl rfl rfl) rfl ?_
   rintro _ qz _ ⟨(nI : HS _ _ _ [_, _, _, _, _, _, _, [(ar, .cells [(iI 0), (iI 0), (iI (J - 2)), (iI 0), (iI 0), (.slice none 0 0)] none false)]] _), _⟩
   refine ab 0 rfl ?_
   exact ax _ _ ⟨hv, lv, c.params, c.regs, 0, 0, J - 2, 0, 0, ([] : List Int), N, z, A, none, 0, av, _, fR, nI, E, (SR.nil : SR a3 (.slice none 0 0) ([] : List Int)), Z, ⟨rfl, rfl, trivial⟩, (by omega), (by omega), (by exact fun m hm => by exact il (e4 m hm))⟩
  have kj := hh
  try simp only [BS] at kj
  refine wR 1 [] 141 143 [] [(141, (.bool (U == 9)))] trivial rfl fun _ => ?_
  refine ap 0 1 (v := (U == 9)) rfl rfl rfl rfl (fun hj => ?_) (fun hj => ?_)
  ·
   have kl := hj
   try simp only [BS] at kl
   refine aa ?_
   refine wRo 5 0 [] 144 148 [] [(145, (iI (J - 2))), (148, (.pointer (some ⟨ar, 3, none⟩)))] trivial rfl fun _ => ?_
   refine aF (aw (q := 7) V rfl rfl rfl rfl rfl rfl rfl rfl rfl) rfl ?_
   rintro _ qA _ ⟨(nJ : HS _ _ _ [_, _, _, _, _, _, _, [(ar, .cells [(iI 0), (iI 0), (iI 0), (iI (J - 2)), (iI 0), (.slice none 0 0)] none false)]] _), _⟩
   refine ab 0 rfl ?_
   exact ax _ _ ⟨hv, lv, c.params, c.regs, 0, 0, 0, J - 2, 0, ([] : List Int), N, z, A, none, 0, av, _, fR, nJ, E, (SR.nil : SR a3 (.slice none 0 0) ([] : List Int)), Z, ⟨rfl, rfl, trivial⟩, (by omega), (by omega), (by exact fun m hm => by exact il (e4 m hm))⟩
  have kl := hj
  try simp only [BS] at kl
  refine wR 1 [] 149 151 [] [(149, (.bool (U == 10)))] trivial rfl fun _ => ?_
  refine ap 0 1 (v := (U == 10)) rfl rfl rfl rfl (fun hk => ?_) (fun hk => ?_)
  ·
   have km := hk
   try simp only [BS] at km
   refine aa ?_
   refine wRo 2 0 [] 152 153 [] [(152, (.pointer (some ⟨ar, 0, none⟩))), (153, (iI (J - 2)))] trivial rfl fun _ => ?_
   refine az (am rfl rfl rfl) rfl rfl (m4.word_c ex (J - 2) (1099511627776) (HS.call V) (by omega) (by omega) hT) ?_
   rintro _ qB ⟨mI, n7, hp, hY, rfl, qW⟩
   replace hY : HS _ _ _ [_, _, _, _, _, _, _, _] _ := HS.back V rfl hY
   replace E := E.mono hp
   replace Z := SF.mono hp Z
   refine wRo 3 3 [] 155 157 [] [(157, (.pointer (some ⟨ar, 4, none⟩)))] trivial rfl fun _ => ?_
   refine aF (aw (q := 7) hY rfl rfl rfl rfl rfl rfl rfl rfl rfl) rfl ?_
   rintro _ qC _ ⟨(nK : HS _ _ _ [_, _, _, _, _, _, _, [(ar, .cells [(iI 0), (iI 0), (iI 0), (iI 0), (iI mI), (.slice none 0 0)] none false)]] _), _⟩
   refine ab 0 rfl ?_
   exact ax _ _ ⟨hv, lv, c.params, c.regs, 0, 0, 0, 0, mI, ([] : List Int), N, z, A, none, 0, av, _, (hp), nK, E, (SR.nil : SR n7 (.slice none 0 0) ([] : List Int)), Z, ⟨rfl, rfl, trivial⟩, (by omega), (by omega), (by exact fun m hm => by exact il (e4 m hm))⟩
  have km := hk
  try simp only [BS] at km
  refine wR 1 [] 158 160 [] [(158, (.bool (U == 11)))] trivial rfl fun _ => ?_
  refine ap 0 1 (v := (U == 11)) rfl rfl rfl rfl (fun hl => ?_) (fun hl => ?_)
  ·
   have kn := hl
   try simp only [BS] at kn
   refine aa ?_
   refine wRo 5 0 [(4, .o (.slice none 0 0))] 161 165 [] [(161, (.pointer (some ⟨ar, 0, none⟩))), (165, (.slice none 0 0))] (vA (ql 25 5 (HS.hc V (i := 7) rfl) rfl rfl) trivial) rfl fun _ => ?_
   have f2 := HS.snoc V
   have f2 : HS _ _ _ [_, _, _, _, _, _, _, _, []] _ := f2
   refine aC (aW (α := Int) (q := 8) (OS.nil : OS a3 (.slice none 0 0) ([] : List Int) []) f2 rfl rfl rfl (SR.sv (SR.nil : SR a3 _ (([] : List Int))) f2) rfl rfl rfl rfl rfl rfl rfl (by (simp only [List.length_append, List.length_cons, List.length_nil]; first | omega | (have hq := el (i := kk) (cI (i := ii) e2); omega)))) rfl rfl ?_
   rintro _ qD mF ⟨oa, oO, rfl, hz, (nL : HS _ _ _ [_, _, _, _, _, _, _, _, mF] _), _⟩
   have hz : OS a3 (.slice oa ([] : List Int).length oO) ([] : List Int) mF := hz
   refine wm (iI (J - 2)) rfl rfl rfl ?_
   refine aC (aP (α := Int) (ps := [(0, (iI (J - 2)))]) (cells := [(iI (J - 2))]) ([J - 2] : List Int) nL rfl rfl rfl (by kernel_rfl) ⟨[(iI (J - 2))], [], rfl, ⟨rfl, by omega⟩, rfl⟩ rfl) rfl rfl ?_
   rintro _ qE oX ⟨qK, q1, rfl, nj, (lE : HS _ _ _ [_, _, _, _, _, _, _, _, _, oX] _), _⟩
   refine aC (aW (α := Int) (q := 8) hz lE rfl rfl rfl (OS.sv nj lE (i := 9) rfl) rfl rfl rfl rfl rfl rfl rfl (by (simp only [List.length_append, List.length_cons, List.length_nil]; first | omega | (have hq := el (i := kk) (cI (i := ii) e2); omega)))) rfl rfl ?_
   rintro _ qF mG ⟨ih, kJ, rfl, hA, (nM : HS _ _ _ [_, _, _, _, _, _, _, _, mG, _] _), _⟩
   have hA : OS a3 (.slice ih ([J - 2] : List Int).length kJ) ([J - 2] : List Int) mG := hA
   refine wRo 2 9 [] 170 171 [] [(171, (.pointer (some ⟨ar, 5, none⟩)))] trivial rfl fun _ => ?_
   refine aF (aw (q := 7) nM rfl rfl rfl rfl rfl rfl rfl rfl rfl) rfl ?_
   rintro _ qG _ ⟨(nN : HS _ _ _ [_, _, _, _, _, _, _, [(ar, .cells [(iI 0), (iI 0), (iI 0), (iI 0), (iI 0), (.slice ih ([J - 2] : List Int).length kJ)] none false)], _, _] _), _⟩
   refine ab 0 rfl ?_
   obtain ⟨p7, hr, h1, np, pU⟩ := OS.frz hA nN (i := 8) rfl
   have h1 : HS _ _ _ [_, _, _, _, _, _, _, _, [], _] _ := h1
   replace E := E.mono hr
   replace Z := SF.mono hr Z
   exact ax _ _ ⟨hv, lv, c.params, c.regs, 0, 0, 0, 0, 0, ([J - 2] : List Int), N, z, A, ih, kJ, av, _, (hr), (HS.sub h1 (List.sublist_append_left _ _)), E, np, Z, ⟨rfl, rfl, trivial⟩, (by omega), (by omega), (by exact fun m hm => by exact il (e4 m hm))⟩
  have kn := hl
  try simp only [BS] at kn
  refine wR 1 [] 172 174 [] [(172, (.bool (U == 12)))] trivial rfl fun _ => ?_
  refine ap 0 0 (v := (U == 12)) rfl rfl rfl rfl (fun hn => ?_) (fun hn => ?_)
  ·
   have ko := hn
   try simp only [BS] at ko
   refine aa ?_
   refine wRo 8 0 [(1, .o (.slice z hv.length A)), (4, .o (.slice z hv.length A))] 175 182 [] [(176, (.slice z hv.length A)), (182, (iI (if (if (hv.length : Int) < J - 2 then (hv.length : Int) else J - 2) > (0 : Int) then (if (hv.length : Int) < J - 2 then (hv.length : Int) else J - 2) else (0 : Int))))] (vA (ql 22 2 (HS.hc V (i := 3) rfl) rfl rfl) (vA (ql 22 2 (HS.hc V (i := 3) rfl) rfl rfl) trivial)) rfl fun _ => ?_
   refine aC (rs_cutOt (α := BlkH) (j := (if (if (hv.length : Int) < J - 2 then (hv.length : Int) else J - 2) > (0 : Int) then (if (hv.length : Int) < J - 2 then (hv.length : Int) else J - 2) else (0 : Int)).toNat) E V (q := 4) rfl rfl rfl rfl (optN (by omega)) (by omega)) rfl rfl ?_
   rintro _ _ _ ⟨lH, my, rfl, et, nl⟩
   simp only at et; replace et := et.symm; subst et
   obtain ⟨k0, mU, mN, lh⟩ := FAM.take (if (if (hv.length : Int) < J - 2 then (hv.length : Int) else J - 2) > (0 : Int) then (if (hv.length : Int) < J - 2 then (hv.length : Int) else J - 2) else (0 : Int)).toNat Z
   have h2 := HS.open V (i := 5) rfl (List.Perm.of_eq mN)
   have h2 : HS _ _ _ [_, _, _, _, _, k0, _, _, mU] _ := h2
   have pA := FAM.len lh
   refine wRo 1 9 [] 184 184 [] [(184, (.pointer (some ⟨b9, 2, none⟩)))] trivial rfl fun _ => ?_
   refine aF (aw (q := 3) h2 rfl rfl rfl rfl rfl rfl rfl rfl rfl) rfl ?_
   rintro _ qH _ ⟨(nO : HS _ _ _ [_, _, _, [(b9, .cells [(iI c.params), (iI c.regs), (.slice lH (hv.take (if (if (hv.length : Int) < J - 2 then (hv.length : Int) else J - 2) > (0 : Int) then (if (hv.length : Int) < J - 2 then (hv.length : Int) else J - 2) else (0 : Int)).toNat).length my)] none false)], _, _, _, _, _] _), _⟩
   refine ab 0 rfl ?_
   exact ax _ _ ⟨hv.take (if (if (hv.length : Int) < J - 2 then (hv.length : Int) else J - 2) > (0 : Int) then (if (hv.length : Int) < J - 2 then (hv.length : Int) else J - 2) else (0 : Int)).toNat, lv.take (if (if (hv.length : Int) < J - 2 then (hv.length : Int) else J - 2) > (0 : Int) then (if (hv.length : Int) < J - 2 then (hv.length : Int) else J - 2) else (0 : Int)).toNat, c.params, c.regs, 0, 0, 0, 0, 0, ([] : List Int), N, lH, my, none, 0, k0, _, fR, (HS.sub nO (List.sublist_append_left _ _)), nl, (SR.nil : SR a3 (.slice none 0 0) ([] : List Int)), lh, ⟨rfl, rfl, trivial⟩, (by omega), (by (simp; omega)), (by exact fun m hm => by exact il (fun y hy => e4 m hm y (List.mem_of_mem_take hy)))⟩
  have ko := hn
  try simp only [BS] at ko
  exact ax _ _ ⟨hv, lv, c.params, c.regs, 0, 0, 0, 0, 0, ([] : List Int), N, z, A, none, 0, av, _, fR, V, E, (SR.nil : SR a3 (.slice none 0 0) ([] : List Int)), Z, ⟨rfl, rfl, trivial⟩, (by omega), (by omega), (by exact fun m hm => by exact il (e4 m hm))⟩
 skip
 rintro qN qq ⟨a7, dv, pq, rq, lJ, lK, lL, lM, lN, bva, bz, al, an, bk, bl, c0, p6, m0, lD, b8, nS, go, lf, j0, j1, j2⟩
 refine au _ lf (fun _ => ?_)
 clear lf
 have oc := FAM.len go
 refine aq 3 rfl ?_
 refine aa ?_
 let mK : Value := (.agg ⟨[(iI pq), (iI rq), (.slice al a7.length an)]⟩)
 refine wRo 1 0 [(0, .o mK)] 185 185 [] [(185, mK)] (vA (qn 24 0 3 (HS.hc lD (i := 3) rfl) rfl rfl rfl rfl) trivial) rfl fun _ => ?_
 refine aF (aw (q := 1) lD rfl rfl rfl rfl rfl rfl rfl rfl rfl) rfl ?_
 rintro _ qI _ ⟨(nP : HS _ _ _ [_, [(b3, .cells [(iI pq), (iI rq), (.slice al a7.length an)] none false)], _, [(b9, .cells [(iI pq), (iI rq), (.slice al a7.length an)] none false)], bz, c0, _, [(ar, .cells [(iI lJ), (iI lK), (iI lL), (iI lM), (iI lN), (.slice bk bva.length bl)] none false)]] _), _⟩
 refine ab 1 rfl ?_
 obtain ⟨p8, k5, h4, m8⟩ := SF.freeze go nP (q := 5) rfl
 have h4 : HS _ _ _ [_, _, _, _, _, [], _, _] _ := h4
 replace b8 := b8.mono k5
 obtain ⟨p9, k6, f3, nq, pV⟩ := OS.frz b8 h4 (i := 4) rfl
 have f3 : HS _ _ _ [_, _, _, _, [], _, _, _] _ := f3
 have lA := blkH_rows nq (by omega) (fun i hi => SR.mono k6 (m8 i hi))
 have nR := SR.len' lA
 have mn := SR.norm lA
 refine ah ⟨.inr rfl, _, (rC rfl (ldVN rfl rfl (HS.hc f3 (i := 1) rfl) rfl) rN), (⟨pq, rq, (blkZ a7 dv)⟩ : VFnT), al, an, _, (fT (fT (fT (fT (fT (f4) dl) dn) m0) k5) k6), (HS.forget f3), (by simp only [nR]; rfl), (by (dsimp only; omega)), (by (dsimp only; omega)), mn, (by exact Nat.le_trans blkZ_len j1), (by exact fun m hm => blkZ_ok (j2 m hm))⟩
end Go.Proofs.YtknafdcgpaejlaaDoor.m9
