/-
 The law on the interference graph and the use counts, by a symbolic run. No condition but that the table lies as laid and a bound on lengths.
-/
import Derived.Test.YtknafdcgpaejlaaDoorZGNI
import Derived.Test.YtknafdcgpaejlaaDoorZGM9
import Derived.Test.YtknafdcgpaejlaaDoorZGME
noncomputable section
namespace Go.Proofs.YtknafdcgpaejlaaDoor.np
open Go.R
set_option maxRecDepth 10000
set_option linter.unusedVariables false
set_option linter.unusedSimpArgs false
variable (ex : FuncId) {F : Fz} {H : Heap} {R : List Fp}
open m1 m2 m3 m4 m5 m6 ma ml mb mc md mf mg mh mi mj na nb nc ni m9 me
theorem vfG.oki {x : VFnT} {n : Int} (h : vfG x n) (j : Nat) : okI 6 (x.blocks.getD j default).ins := by
 refine ⟨a0b (h.ins j) (by omega), fun z hz => ?_⟩
 have hv := h.val
 unfold cx at hv
 rw [a0c] at hv
 rcases a0k j x.blocks.length with hj | hj
 ·
  have hb := all_at hv.2 hj
  unfold kD at hb
  rw [a0c] at hb
  have A := a0v.1 hb.1 z hz
  unfold eI at A
  simp only [a0c, decide_eq_true_eq] at A
  omega
 rw [cr hj] at hz; cases hz
theorem oki_up {m n : Nat} {y : List VInT} (h : okI m y) (hm : m ≤ n) : okI n y := ⟨h.1, fun z hz => a0b (h.2 z hz) hm⟩
theorem rows_ext {x y : List (List Int)} (hl : x.length = y.length) (h : ∀ j, j < x.length → x.getD j default = y.getD j default) : x = y := by
 apply a1X hl
 intro j z A
 have := h j z
 rwa [a01, a01, a03 z, a03 A] at this
theorem inte_lt {c : VFnT} (v : VF c) {a x : Nat} (h : intE c a x) : (a : Int) < c.regs ∧ (x : Int) < c.regs := by
 obtain ⟨b, i, z, A, E, J, _⟩ := h
 exact ⟨((bR (v.ins b z i A)).2.1 _ E).2, pt_lt v z J⟩
theorem iX {c : VFnT} {x y : List (List Int)} (z : cx c = true → InF c x) (h0 : cx c = false → x = []) (k1 : cx c = true → InF c y) (A : cx c = false → y = []) : x = y ∧ x.length ≤ 3000 ∧ ∀ j, (x.getD j default).length ≤ 3000 := by
 cases hv : cx c with
 | false => rw [h0 hv, A hv]; exact ⟨rfl, a0B _, fun j => a0B _⟩
 | true =>
  have v := iA hv
  have hr := v.regs
  have z := z hv
  have k1 := k1 hv
  have E := z.len
  have J := k1.len
  refine ⟨rows_ext (by omega) fun j hj => Lst.uniq (z.row j (by omega)) (k1.row j (by omega)) fun r => Iff.rfl, by omega, fun j => ?_⟩
  rcases a0k j c.regs.toNat with hj | hj
  ·
   have := Lst.len (z.row j hj) hr.1 (fun r h => by
    rcases h with h | h
    ·
     exact (inte_lt v h).2
    exact (inte_lt v h).1)
   exact Int.ofNat_le.1 (Int.le_trans this hr.2)
  rw [cr (by omega)]; exact a0B _
theorem us_same {c : VFnT} {x y : List Int} (z : cx c = true → CntF c (usedC c) x) (h0 : cx c = false → x = []) (k1 : cx c = true → CntF c (usedC c) y) (E : cx c = false → y = []) : x = y ∧ x.length ≤ 3000 := by
 cases hv : cx c with
 | false => rw [h0 hv, E hv]; exact ⟨rfl, a0B _⟩
 | true =>
  have hr := (iA hv).regs
  have z := z hv
  have k1 := k1 hv
  have J := z.len
  have N := k1.len
  refine ⟨a1X (by omega) fun j hj A => ?_, by omega⟩
  have := (z.at_ j (by omega)).trans (k1.at_ j (by omega)).symm
  rwa [a01, a01, a03 hj, a03 A] at this
theorem us_nb {c : VFnT} {x y : List Int} (z : cx c = true → CntF c (usedC c) x) (h0 : cx c = false → x = []) (k1 : cx c = true → CntF c (usedC c) y) (A : cx c = false → y = []) : (!(decide (x = y))) = false := by rw [decide_eq_true (us_same z h0 k1 A).1]; rfl
theorem gr_nb {c : VFnT} {x y : List (List Int)} (z : cx c = true → InF c x) (h0 : cx c = false → x = []) (k1 : cx c = true → InF c y) (A : cx c = false → y = []) : (!(decide (x = y))) = false := by rw [decide_eq_true (iX z h0 k1 A).1]; rfl
def insB (c : VFnT) : Prop := ∀ j, (c.blocks.getD j default).ins.length ≤ 1073741822
theorem insB_at {l : List VFnT} (h : ∀ x ∈ l, insB x) (i : Nat) : insB (l.getD i default) := by
 rw [a01]
 rcases hk : l[i]? with _ | x
 ·
  exact fun j => a0B _
 exact h x (a0m hk)
theorem insB_mut {c x : VFnT} (z : ∀ m, (∀ j, okI m (c.blocks.getD j default).ins) → ∀ j, okI (m + 1) (x.blocks.getD j default).ins) (ho : ∀ j, okI 6 (c.blocks.getD j default).ins) : insB x := fun j => a0b (z 6 ho j).1 (by omega)
theorem insB3 {a b c : VFnT} (ha : insB a) (hb : insB b) (hc : insB c) : ∀ x ∈ [a, b, c], insB x := fun x hx => by
 simp only [a0r, a0f, or_false] at hx
 rcases hx with rfl | rfl | rfl
 ·
  exact ha
 ·
  exact hb
 exact hc
theorem ex_c (_ : FuncId) (hs : HS (.of H []) F H [] R) (hT : TB 37 tabC F) : C Tryd.prog 1 (KT 60 15 37 tabC) 15 [] H fun v H' => ∃ (r : Bool), H' = H ∧ v = .bool r ∧ r = true :=
 ⟨0, .bool true, H, by unfold call jp; rw [(hT.heap hs).known (by decide)], true, rfl, rfl, rfl⟩
theorem ex_c_q (e : FuncId) (hs : HS (.of H []) F H [] R) (hT : TB 37 tabC F) : C Tryd.prog 1 (KT 60 15 37 tabC) 15 [] H fun v H' => v = .bool true ∧ H' = H := cq (ex_c e hs hT) (by rintro _ _ ⟨_, rfl, rfl, rfl⟩; exact ⟨rfl, rfl⟩)
set_option maxHeartbeats 4000000 in
theorem graph_law {E : Option Addr} {J : Nat} (raw : VFnT) {a_l : Option Addr} {k_l : Nat} (l : List Int) (params : Int) (how : Int) (at_ : Int) (hs : HS (.of H []) F H [] R) (hn : in64 raw.params) (hp : in64 raw.regs) (a3 : SR F (.slice E raw.blocks.length J) raw.blocks) (hl : SR F (.slice a_l l.length k_l) l) (hparams : in64 params) (hhow : in64 how) (hat_ : in64 at_) (hT : TB 37 tabC F) (hraw : ∀ j, (raw.blocks.getD j default).ins.length ≤ 1073741822) : C Tryd.prog 1 (KT 60 15 37 tabC) 3 [(.agg ⟨[(iI raw.params), (iI raw.regs), (.slice E raw.blocks.length J)]⟩), (.slice a_l l.length k_l), (iI params), (iI how), (iI at_)] H fun v H' => ∃ (r : Bool) (F' : Fz), Fz.le F F' ∧ HS (.of H []) F' H' [] R ∧ v = .bool r ∧ r = true := by
 refine aI Tryd.func3 rfl rfl ?_
 refine ah 1 rfl ?_
 refine aa ?_
 refine aH (bw hs rfl rfl) rfl rfl ?_
 rintro _ H2 _ ⟨b1, rfl, (a5 : HS _ _ _ [[(b1, .cells [(iI raw.params), (iI raw.regs), (.slice E raw.blocks.length J)] none false)]] _), _⟩
 refine wa (.bool false) rfl rfl rfl ?_
 refine ae 3 rfl ?_
 refine wU 1 [(1, .o (.slice E raw.blocks.length J))] 14 17 [] [(17, (.bool (decide ((20 : Int) < (raw.blocks.length : Int)))))] (ql 22 2 (HS.hc a5 (i := 0) rfl) rfl rfl) rfl fun _ => ?_
 refine am 1 2 (v := (decide ((20 : Int) < (raw.blocks.length : Int)))) rfl rfl rfl rfl (fun c7 => ?_) (fun c7 => ?_)
 ·
  have c4 := c7
  try simp only [BS] at c4
  refine wU 1 [(0, .o (.bool true))] 10 10 [18] [(10, (.bool true))] (ex_c_q 15 (HS.call a5) hT) rfl fun _ => ?_
  refine ak ⟨.inr rfl, _, rfl, true, _, fR, (HS.forget a5), rfl, (by first | rfl | simp)⟩
 have c4 := c7
 try simp only [BS] at c4
 refine aY rfl ?_
 refine fm (.slice a_l l.length k_l) rfl rfl rfl ?_
 refine fm (.slice a_l l.length k_l) rfl rfl rfl ?_
 refine aB (v := (iI (l.length : Int))) (id := .v) (jh (α := Int) rfl rfl (SR.sv hl a5.log0)) rfl rfl (i5 rfl) (cO _) ?_
 refine aB (v := (iI (if (36 : Int) < (l.length : Int) then (36 : Int) else (l.length : Int)))) (id := .x []) (pmm_ok (w := true) rfl rfl rfl) rfl rfl (cz (W := []) rfl rfl fun b hb => absurd hb a0f) (⟨.inl rfl, ⟨.inl rfl, ⟨.inr trivial, trivial⟩⟩⟩) ?_
 refine cg (id := .q fun b => F b ≠ none) (rs_cutt (α := Int) (j := (if (36 : Int) < (l.length : Int) then (36 : Int) else (l.length : Int)).toNat) hl a5.log0 rfl rfl rfl (optN (by first | omega | (dsimp only; omega))) (by first | omega | (dsimp only; omega))) rfl rfl (by rintro _ _ _ ⟨_, _, _, hH, _⟩; exact did_q rfl (SR.q hl)) (⟨.inl rfl, ⟨.inl rfl, ⟨.inl rfl, ⟨.inl rfl, trivial⟩⟩⟩⟩) ?_
 rintro _ _ _ ⟨a6, k6, rfl, cl, hm⟩ hr e6
 simp only at cl; replace cl := cl.symm; subst cl
 have dk := HS.lg a5.log0 a5 e6
 generalize ({ { H2 with log := [] } with log := hr } : Heap) = hf at dk ⊢
 refine fm (iI params) rfl rfl rfl ?_
 have j0 := eZ params (3 : Int)
 refine bj (W := []) (ap rfl rfl rfl) rfl rfl rfl (m1.pick_c 15 params (3) _ (by first | omega | (dsimp only; omega))) (⟨.inl rfl, ⟨.inr (fun b hb => absurd hb a0f), ⟨.inr ⟨trivial, trivial⟩, ⟨.inr trivial, ⟨.inr trivial, ⟨.inr trivial, trivial⟩⟩⟩⟩⟩⟩) ?_
 rintro _ _ ⟨r8, rfl, rfl, rfl⟩
 refine ⟨fun b hb => absurd hb a0f, fun ht fd => ?_⟩
 have co := HS.lg dk.log0 dk fd
 generalize ({ { hf with log := [] } with log := ht } : Heap) = jc at co ⊢
 refine bj (W := []) (ap rfl rfl rfl) rfl rfl rfl (m5.vf_c 15 (l.take (if (36 : Int) < (l.length : Int) then (36 : Int) else (l.length : Int)).toNat) (bJ params (3 : Int)) (HS.call co.log0) hm hT (by first | omega | (rw [a0q]; exact a0b (Nat.min_le_left _ _) (by split <;> omega))) (by first | omega | (rw [a0q]; exact a0b (Nat.min_le_left _ _) (by split <;> omega)))) (⟨.inl rfl, ⟨.inl rfl, ⟨.inl rfl, ⟨.inl rfl, ⟨.inl rfl, ⟨.inl rfl, ⟨.inl rfl, trivial⟩⟩⟩⟩⟩⟩⟩) ?_
 rintro _ H9 ⟨A, an, ar, F9, c8, av, rfl, hh, hj, a1, h9⟩
 refine ⟨Wr.did av.log, fun hu fi => ?_⟩
 replace av := HS.back co.log0 rfl av
 replace av := HS.lg av co fi
 generalize ({ H9 with log := hu } : Heap) = jq at av ⊢
 have av : HS _ _ _ [_] _ := av
 replace hT := hT.mono c8
 refine cg (id := .a) (bp av.log0 rfl) rfl rfl (fun _ _ _ _ => km rfl rfl rfl) (⟨.inr trivial, ⟨.inr trivial, ⟨.inr trivial, ⟨.inr trivial, ⟨.inr trivial, ⟨.inr trivial, ⟨.inr trivial, ⟨.inr trivial, trivial⟩⟩⟩⟩⟩⟩⟩⟩) ?_
 rintro _ g4 _ ⟨b4, rfl, ay, _⟩ f2 ds
 replace ay := HS.lg ay av ds
 generalize ({ g4 with log := f2 } : Heap) = hz at ay ⊢
 have ay : HS _ _ _ [_, [(b4, .cells [(iI 0), (iI 0), (.slice none 0 0)] none false)]] _ := ay
 refine iu (id := .x [b4]) (aE (q := 1) ay.log0 rfl rfl rfl rfl rfl rfl rfl rfl rfl) rfl (by rintro _ _ _ ⟨_, hwr⟩; exact cz rfl rfl (Wr.did hwr)) (⟨.inl rfl, ⟨.inl rfl, ⟨.inl rfl, ⟨.inl rfl, ⟨.inl rfl, ⟨.inl rfl, ⟨.inl rfl, ⟨.inl rfl, ⟨.inl rfl, trivial⟩⟩⟩⟩⟩⟩⟩⟩⟩) ?_
 rintro _ g5 _ ⟨V, _⟩ f3 dt
 replace V := HS.lg V ay dt
 generalize ({ g5 with log := f3 } : Heap) = hA at V ⊢
 let e0 : Fp := [(b4, .cells [(iI A.params), (iI A.regs), (.slice an A.blocks.length ar)] none false)]
 have V : HS _ _ _ [_, e0] _ := V
 refine cu ?_
 refine ah 3 rfl ?_
 have hG : vfG A (bJ params 3) := by assumption
 have hins := hG.ins
 have hnb := hG.nb
 have ho : ∀ j, okI 6 (A.blocks.getD j default).ins := fun j => vfG.oki hG j
 have hcb : insB A := fun j => a0b (hins j) (by omega)
 refine aY rfl ?_
 let e1 : Value := (.agg ⟨[(iI raw.params), (iI raw.regs), (.slice E raw.blocks.length J)]⟩)
 refine aB (v := e1) (id := .l b1) (dL (i := 0) rfl rfl rfl (HS.hc V.log0 (i := 0) rfl) rfl rfl rfl) rfl rfl (bG rfl) trivial ?_
 let dn : Value := (.agg ⟨[(iI A.params), (iI A.regs), (.slice an A.blocks.length ar)]⟩)
 refine aB (v := dn) (id := .l b4) (dL (i := 0) rfl rfl rfl (HS.hc V.log0 (i := 1) rfl) rfl rfl rfl) rfl rfl (bG rfl) (⟨.inr trivial, trivial⟩) ?_
 refine aB (v := dn) (id := .l b4) (dL (i := 0) rfl rfl rfl (HS.hc V.log0 (i := 1) rfl) rfl rfl rfl) rfl rfl (bG rfl) (⟨.inr trivial, ⟨.inr trivial, trivial⟩⟩) ?_
 refine fm (iI how) rfl rfl rfl ?_
 refine fm (iI at_) rfl rfl rfl ?_
 refine bj (W := []) (ap rfl rfl rfl) rfl rfl rfl (m9.mut_c 15 A how at_ (HS.call V.log0) (by first | omega | (dsimp only; omega)) (by first | omega | (dsimp only; omega)) a1 (by first | omega | (dsimp only; omega)) (by first | omega | (dsimp only; omega)) hT (by first | omega | exact fun j => oki_up (ho j) (by omega)) (by first | omega | exact fun j => oki_up (ho j) (by omega))) (⟨.inl rfl, ⟨.inl rfl, ⟨.inl rfl, ⟨.inr a0f, ⟨.inr a0f, trivial⟩⟩⟩⟩⟩) ?_
 rintro _ g6 ⟨z, ag, al, g3, bk, ad, rfl, g1, g2, c5, h2, h7⟩
 refine ⟨Wr.did ad.log, fun f4 dv => ?_⟩
 replace ad := HS.back V.log0 rfl ad
 replace ad := HS.lg ad V dv
 generalize ({ g6 with log := f4 } : Heap) = hB at ad ⊢
 have ad : HS _ _ _ [_, _] _ := ad
 replace a3 := (a3.mono c8).mono bk
 replace a1 := a1.mono bk
 refine cg (id := .a) (bu (α := VFnT) (ps := [(0, e1), (1, dn), (2, (.agg ⟨[(iI z.params), (iI z.regs), (.slice ag z.blocks.length al)]⟩))]) (cells := [(iI raw.params), (iI raw.regs), (.slice E raw.blocks.length J), (iI A.params), (iI A.regs), (.slice an A.blocks.length ar), (iI z.params), (iI z.regs), (.slice ag z.blocks.length al)]) ([raw, A, z] : List VFnT) ad.log0 rfl rfl rfl (by kernel_rfl) ⟨[(iI raw.params), (iI raw.regs), (.slice E raw.blocks.length J)], [(iI A.params), (iI A.regs), (.slice an A.blocks.length ar), (iI z.params), (iI z.regs), (.slice ag z.blocks.length al)], rfl, ⟨E, J, rfl, by first | omega | (dsimp only; omega), by first | omega | (dsimp only; omega), a3⟩, ⟨[(iI A.params), (iI A.regs), (.slice an A.blocks.length ar)], [(iI z.params), (iI z.regs), (.slice ag z.blocks.length al)], rfl, ⟨an, ar, rfl, by first | omega | (dsimp only; omega), by first | omega | (dsimp only; omega), a1⟩, ⟨[(iI z.params), (iI z.regs), (.slice ag z.blocks.length al)], [], rfl, ⟨ag, al, rfl, by first | omega | (dsimp only; omega), by first | omega | (dsimp only; omega), c5⟩, rfl⟩⟩⟩ rfl) rfl rfl (fun _ _ _ _ => km rfl rfl rfl) (⟨.inl rfl, ⟨.inl rfl, ⟨.inl rfl, ⟨.inl rfl, ⟨.inl rfl, ⟨.inl rfl, trivial⟩⟩⟩⟩⟩⟩) ?_
 rintro _ g7 ez ⟨hg, hq, rfl, a2, a0, _⟩ f5 d1
 replace a0 := HS.lg a0 ad d1
 generalize ({ g7 with log := f5 } : Heap) = hC at a0 ⊢
 have a0 : HS _ _ _ [_, _, ez] _ := a0
 have ik : ([raw, A, z] : List VFnT).length = 3 := rfl
 refine aB (v := (iI (([raw, A, z] : List VFnT).length : Int))) (id := .v) (jh (α := VFnT) rfl rfl (OS.sv a2 a0.log0 (i := 2) rfl)) rfl rfl (i5 rfl) (cO _) ?_
 refine fm (iI 0) rfl rfl rfl ?_
 refine cu ?_
 refine ah 2 rfl ?_
 refine aj (fun (mm : Nat) f H' => ∃ (k : Nat) (F' : Fz), Fz.le g3 F' ∧ HS (Base.of H []) F' H' [[(b1, .cells [(iI raw.params), (iI raw.regs), (.slice E raw.blocks.length J)] none false)], e0, ez] R ∧ aD f [(33, (.slice hg ([raw, A, z] : List VFnT).length hq)), (34, (iI (([raw, A, z] : List VFnT).length : Int))), (35, (iI (k : Int)))] ∧ mm = 3 - k ∧ (k ≤ 3) ∧ (∀ x ∈ ([raw, A, z] : List VFnT), insB x)) _ ⟨0, _, fR, a0, (agC rfl (agC rfl (agC rfl agN))), rfl, (by first | assumption | omega | (simp at *; omega)), (by exact insB3 hraw hcb (insB_mut (by assumption) ho))⟩ ?_
 rintro il jw i3 ⟨k, it, bl, a4, c9, rfl, hk, hxs⟩ f1
 refine au _ c9 (fun _ => ?_)
 clear c9
 replace hT := (hT.mono bk).mono bl
 replace a2 := a2.mono bl
 have hxb := insB_at hxs k
 refine ah 1 rfl ?_
 refine wT 2 [] 36 36 [] [(36, (.bool (decide ((k : Int) < (([raw, A, z] : List VFnT).length : Int)))))] rfl fun _ => ?_
 refine am 4 5 (v := (decide ((k : Int) < (([raw, A, z] : List VFnT).length : Int)))) rfl rfl rfl rfl (fun b6 => ?_) (fun b6 => ?_)
 ·
  have c6 := b6
  try simp only [BS] at c6
  refine aa ?_
  obtain ⟨bb, dl⟩ := Sv.view (OS.sv a2 a4 (i := 2) rfl)
  obtain ⟨hv, hw, N⟩ := VFnT.fx (dl k)
  let a9 : Value := (.agg ⟨[(iI (([raw, A, z] : List VFnT).getD k default).params), (iI (([raw, A, z] : List VFnT).getD k default).regs), (.slice (cA (bb k) 2) (([raw, A, z] : List VFnT).getD k default).blocks.length (cK (bb k) 2))]⟩)
  refine wRo 2 0 [(1, .o a9)] 37 38 [] [(38, a9)] (vA (Sv.ix (j := (k : Int)) (OS.sv a2 a4 (i := 2) rfl) (by first | omega | (dsimp only; omega)) (show (k : Int) < (3 : Int) from by first | omega | (dsimp only; omega))) (vA (qn 24 0 3 (VFnT.vw (dl k) (show k < 3 from by first | omega | (dsimp only; omega))) rfl rfl rfl rfl) trivial)) rfl fun _ => ?_
  refine aH (bp a4 rfl) rfl rfl ?_
  rintro _ ja _ ⟨a8, rfl, (f0 : HS _ _ _ [_, _, _, [(a8, .cells [(iI 0), (iI 0), (.slice none 0 0)] none false)]] _), _⟩
  refine aL (aE (q := 3) f0 rfl rfl rfl rfl rfl rfl rfl rfl rfl) rfl ?_
  rintro _ jb _ ⟨(b3 : HS _ _ _ [_, _, _, [(a8, .cells [(iI (([raw, A, z] : List VFnT).getD k default).params), (iI (([raw, A, z] : List VFnT).getD k default).regs), (.slice (cA (bb k) 2) (([raw, A, z] : List VFnT).getD k default).blocks.length (cK (bb k) 2))] none false)]] _), _⟩
  refine ae 2 rfl ?_
  refine aY rfl ?_
  refine aB (v := a9) (id := .l a8) (dL (i := 0) rfl rfl rfl (HS.hc b3.log0 (i := 3) rfl) rfl rfl rfl) rfl rfl (bG rfl) trivial ?_
  refine bj (W := []) (ap rfl rfl rfl) rfl rfl rfl (nb.inter_c 15 (([raw, A, z] : List VFnT).getD k default) (HS.call b3.log0) (by first | omega | (dsimp only; omega)) (by first | omega | (dsimp only; omega)) N hT (by first | exact hxb | exact fun j => a0b (hxb j) (by omega))) (⟨.inl rfl, trivial⟩) ?_
  rintro _ g8 ⟨hQ, h8, ch, iv, b7, T, rfl, b0, h3, hW⟩
  refine ⟨Wr.did T.log, fun f6 d2 => ?_⟩
  replace T := HS.back b3.log0 rfl T
  replace T := HS.lg T b3 d2
  generalize ({ g8 with log := f6 } : Heap) = hE at T ⊢
  have T : HS _ _ _ [_, _, _, _] _ := T
  replace hT := hT.mono b7
  replace N := N.mono b7
  refine aB (v := a9) (id := .l a8) (dL (i := 0) rfl rfl rfl (HS.hc T.log0 (i := 3) rfl) rfl rfl rfl) rfl rfl (bG rfl) (⟨.inr a0f, ⟨.inr trivial, trivial⟩⟩) ?_
  refine bj (W := []) (ap rfl rfl rfl) rfl rfl rfl (ni.rinter_c 15 (([raw, A, z] : List VFnT).getD k default) (HS.call T.log0) (by first | omega | (dsimp only; omega)) (by first | omega | (dsimp only; omega)) N hT (by first | exact hxb | exact fun j => a0b (hxb j) (by omega))) (⟨.inl rfl, ⟨.inl rfl, ⟨.inl rfl, trivial⟩⟩⟩) ?_
  rintro _ g9 ⟨hR, ib, ci, iz, bz, Y, rfl, et, h4, hX⟩
  refine ⟨Wr.did Y.log, fun f7 d3 => ?_⟩
  replace Y := HS.back T.log0 rfl Y
  replace Y := HS.lg Y T d3
  generalize ({ g9 with log := f7 } : Heap) = e2 at Y ⊢
  have Y : HS _ _ _ [_, _, _, _] _ := Y
  replace hT := hT.mono bz
  replace b0 := b0.mono bz
  replace N := N.mono bz
  refine bj (W := []) (ap rfl rfl rfl) rfl rfl rfl (mh.sameLists_c 15 ch ci (HS.call Y.log0) b0 et hT (by first | exact a0b (iX (by assumption) (by assumption) (by assumption) (by assumption)).2.1 (by omega) | exact fun j => a0b ((iX (by assumption) (by assumption) (by assumption) (by assumption)).2.2 j) (by omega)) (by first | exact a0b (iX (by assumption) (by assumption) (by assumption) (by assumption)).2.1 (by omega) | exact fun j => a0b ((iX (by assumption) (by assumption) (by assumption) (by assumption)).2.2 j) (by omega))) (⟨.inl rfl, ⟨.inl rfl, ⟨.inl rfl, ⟨.inl rfl, trivial⟩⟩⟩⟩) ?_
  rintro _ _ ⟨j1, rfl, rfl, rfl⟩
  refine ⟨fun b hb => absurd hb a0f, fun f8 d4 => ?_⟩
  have a7 := HS.lg Y.log0 Y d4
  generalize ({ { e2 with log := [] } with log := f8 } : Heap) = hF at a7 ⊢
  refine aB (v := (.bool (!(decide (ch = ci))))) (id := .v) (ap_not rfl) rfl rfl (dQ rfl) (cO _) ?_
  refine fm (.bool (!(decide (ch = ci)))) rfl rfl rfl ?_
  have ax : (!(decide (ch = ci))) = false := by exact gr_nb (by assumption) (by assumption) (by assumption) (by assumption)
  refine wf_gt rfl ax ?_
  refine aB (v := a9) (id := .l a8) (dL (i := 0) rfl rfl rfl (HS.hc a7.log0 (i := 3) rfl) rfl rfl rfl) rfl rfl (bG rfl) (⟨.inl rfl, ⟨.inl rfl, ⟨.inl rfl, ⟨.inl rfl, ⟨.inl rfl, ⟨.inl rfl, ⟨.inl rfl, trivial⟩⟩⟩⟩⟩⟩⟩) ?_
  refine wf_gt rfl ax ?_
  refine bj (W := []) (ap rfl rfl rfl) rfl rfl rfl (nc.uses_c 15 (([raw, A, z] : List VFnT).getD k default) (HS.call a7.log0) (by first | omega | (dsimp only; omega)) (by first | omega | (dsimp only; omega)) N hT (by first | exact hxb | exact fun j => a0b (hxb j) (by omega))) (⟨.inl rfl, ⟨.inl rfl, ⟨.inl rfl, ⟨.inl rfl, ⟨.inl rfl, ⟨.inl rfl, ⟨.inl rfl, ⟨.inl rfl, trivial⟩⟩⟩⟩⟩⟩⟩⟩) ?_
  rintro _ ha ⟨hS, ih, c0, i1, b9, U, rfl, b2, h5, hY⟩
  refine ⟨Wr.did U.log, fun f9 ea => ?_⟩
  replace U := HS.back a7.log0 rfl U
  replace U := HS.lg U a7 ea
  generalize ({ ha with log := f9 } : Heap) = hI at U ⊢
  have U : HS _ _ _ [_, _, _, _] _ := U
  replace hT := hT.mono b9
  replace N := N.mono b9
  refine wf_gt rfl ax ?_
  refine aB (v := a9) (id := .l a8) (dL (i := 0) rfl rfl rfl (HS.hc U.log0 (i := 3) rfl) rfl rfl rfl) rfl rfl (bG rfl) (⟨.inr a0f, ⟨.inr trivial, ⟨.inl rfl, ⟨.inl rfl, ⟨.inl rfl, ⟨.inl rfl, ⟨.inl rfl, ⟨.inl rfl, ⟨.inl rfl, trivial⟩⟩⟩⟩⟩⟩⟩⟩⟩) ?_
  refine wf_gt rfl ax ?_
  refine bj (W := []) (ap rfl rfl rfl) rfl rfl rfl (ni.ruses_c 15 (([raw, A, z] : List VFnT).getD k default) (HS.call U.log0) (by first | omega | (dsimp only; omega)) (by first | omega | (dsimp only; omega)) N hT (by first | exact hxb | exact fun j => a0b (hxb j) (by omega))) (⟨.inl rfl, ⟨.inl rfl, ⟨.inl rfl, ⟨.inl rfl, ⟨.inl rfl, ⟨.inl rfl, ⟨.inl rfl, ⟨.inl rfl, ⟨.inl rfl, ⟨.inl rfl, trivial⟩⟩⟩⟩⟩⟩⟩⟩⟩⟩) ?_
  rintro _ he ⟨hV, ii, c3, i2, cc, Z, rfl, ex, h6, h1⟩
  refine ⟨Wr.did Z.log, fun go em => ?_⟩
  replace Z := HS.back U.log0 rfl Z
  replace Z := HS.lg Z U em
  generalize ({ he with log := go } : Heap) = e3 at Z ⊢
  have Z : HS _ _ _ [_, _, _, _] _ := Z
  replace hT := hT.mono cc
  replace b2 := b2.mono cc
  refine wf_gt rfl ax ?_
  refine bj (W := []) (ap rfl rfl rfl) rfl rfl rfl (m6.sameInts_c 15 c0 c3 (HS.call Z.log0) b2 ex hT (by first | omega | exact a0b (us_same (by assumption) (by assumption) (by assumption) (by assumption)).2 (by omega))) (⟨.inl rfl, ⟨.inl rfl, ⟨.inl rfl, ⟨.inl rfl, ⟨.inl rfl, ⟨.inl rfl, ⟨.inl rfl, ⟨.inl rfl, ⟨.inl rfl, ⟨.inl rfl, ⟨.inl rfl, trivial⟩⟩⟩⟩⟩⟩⟩⟩⟩⟩⟩) ?_
  rintro _ _ ⟨j2, rfl, rfl, rfl⟩
  refine ⟨fun b hb => absurd hb a0f, fun g0 es => ?_⟩
  have dd := HS.lg Z.log0 Z es
  generalize ({ { e3 with log := [] } with log := g0 } : Heap) = hK at dd ⊢
  refine wf_gt rfl ax ?_
  refine aB (v := (.bool (!(decide (c0 = c3))))) (id := .v) (ap_not rfl) rfl rfl (dQ rfl) (cO _) ?_
  refine aB (v := (.bool (!(decide (c0 = c3))))) (id := .v) (kJ rfl ax rfl) rfl rfl (dQ rfl) (cO _) ?_
  refine cu ?_
  refine ah 1 rfl ?_
  refine wk_iff 2 (v := (!(decide (c0 = c3)))) rfl (by exact us_nb (by assumption) (by assumption) (by assumption) (by assumption)) rfl rfl ?_
  refine wU 1 [] 35 35 [53] [(35, (iI ((k : Int) + 1)))] (vi (n := (k : Int) + 1) (by first | omega | (dsimp only; omega))) rfl fun _ => ?_
  refine f1 _ _ _ ?_ ⟨k + 1, _, (fT (fT (fT (fT (bl) b7) bz) b9) cc), (HS.sub dd (a05 _ _)), (agC rfl (agC rfl (agC rfl agN))), rfl, (by first | assumption | omega | (simp at *; omega)), (by first | assumption | omega | (simp at *; omega))⟩
  omega
 have c6 := b6
 try simp only [BS] at c6
 refine wU 1 [(0, .o (.bool true))] 10 10 [54] [(10, (.bool true))] (ex_c_q 15 (HS.call a4) hT) rfl fun _ => ?_
 refine ak ⟨.inr rfl, _, rfl, true, _, (fT (fT (c8) bk) bl), (HS.forget a4), rfl, (by first | rfl | simp)⟩
end Go.Proofs.YtknafdcgpaejlaaDoor.np
