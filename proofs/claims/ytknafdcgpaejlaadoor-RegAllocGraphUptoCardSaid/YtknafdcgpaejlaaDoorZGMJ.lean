/-
 Live registers: the reference points and calls, by a symbolic run. No condition but bounds on lengths.
-/
import Derived.Test.YtknafdcgpaejlaaDoorZGMI
noncomputable section
namespace Go.Proofs.YtknafdcgpaejlaaDoor.mj
open Go.R
set_option maxRecDepth 10000
set_option linter.unusedVariables false
set_option linter.unusedSimpArgs false
variable (ex : FuncId) {F : Fz} {H : Heap} {R : List Fp}
open m1 m2 m3 m4 m5 m6 ma ml mb mc md mf mg mh mi
def acJ (c : VFnT) (b k r : Nat) : Prop := acK c b r ∨ ∃ j, j < k ∧ acI c b j r
set_option maxHeartbeats 1000000 in
theorem rlp_c {z : Option Addr} {E : Nat} (c : VFnT) (block : Int) (hs : HS (.of H []) F H [] R) (dk : in64 c.params) (dl : in64 c.regs) (J : SR F (.slice z c.blocks.length E) c.blocks) (hblock : in64 block) (hT : TB 37 tabC F) (hins : ∀ j, (c.blocks.getD j default).ins.length ≤ 1073741824) : kKt ex 30 [(.agg ⟨[(iI c.params), (iI c.regs), (.slice z c.blocks.length E)]⟩), (iI block)] H fun v H' => ∃ (al : Option Addr) (kl : Nat) (l : List (List Int)) (F' : Fz), Fz.le F F' ∧ HS (.of H []) F' H' [] R ∧ v = .slice al l.length kl ∧ SR F' (.slice al l.length kl) l ∧ (cx c = true → 0 ≤ block → block < (c.blocks.length : Int) → PtF c block.toNat l) ∧ ((cx c = false ∨ block < 0 ∨ (c.blocks.length : Int) ≤ block) → l = []) := by
 refine aI Tryd.func30 rfl rfl ?_
 refine ah 1 rfl ?_
 refine aa ?_
 refine aH (bw hs rfl rfl) rfl rfl ?_
 rintro _ H2 _ ⟨b1, rfl, (a0 : HS _ _ _ [[(b1, .cells [(iI c.params), (iI c.regs), (.slice z c.blocks.length E)] none false)]] _), _⟩
 refine wa (.slice none 0 0) rfl rfl rfl ?_
 refine ae 3 rfl ?_
 refine aa ?_
 let ag : Value := (.agg ⟨[(iI c.params), (iI c.regs), (.slice z c.blocks.length E)]⟩)
 refine wUo 1 0 [(0, .o ag)] 7 7 [] [(7, ag)] (qn 24 0 3 (HS.hc a0 (i := 0) rfl) rfl rfl rfl rfl) rfl fun _ => ?_
 refine az (ap rfl rfl rfl) rfl rfl (m3.hU ex c (HS.call a0) (by first | (dsimp only; omega) | omega) (by first | (dsimp only; omega) | omega) J hT (by exact fun j => a0b (hins j) (by omega))) ?_
 rintro _ H4 ⟨r4, F4, ad, T, rfl, rfl⟩
 replace T : HS _ _ _ [_] _ := HS.back a0 rfl T
 replace hT := hT.mono ad
 replace J := J.mono ad
 refine wUo 12 2 [(10, .o (.slice z c.blocks.length E))] 9 20 [] [(20, (.bool (((!(cx c)) || (decide (block < 0))) || (decide ((c.blocks.length : Int) ≤ block)))))] (fun (g1 : ((!(cx c)) || (decide (block < 0))) = false) => (ql 22 2 (HS.hc T (i := 0) rfl) rfl rfl)) rfl fun _ => ?_
 refine ae 1 rfl ?_
 refine am 1 2 (v := (((!(cx c)) || (decide (block < 0))) || (decide ((c.blocks.length : Int) ≤ block)))) rfl rfl rfl rfl (fun av => ?_) (fun av => ?_)
 ·
  have c6 := av
  try simp only [BS] at c6
  have hb := c6
  refine wT 1 [] 4 4 [] [(4, (.slice none 0 0))] rfl fun _ => ?_
  refine ak ⟨.inr rfl, _, rfl, none, 0, ([] : List (List Int)), _, (ad), (HS.forget T), rfl, (SR.nil : SR F4 (.slice none 0 0) ([] : List (List Int))), (by first | exact fun h h2 h3 => absurd hb (by simp [h]; omega) | exact fun _ _ _ => ptf_of (bk.hy _ hbn) (by assumption)), (by first | exact fun _ => rfl | exact fun h => by rw [hv] at h; simp at h; omega)⟩
 have c6 := av
 try simp only [BS] at c6
 have hb := c6
 have hv : cx c = true := hb.1.1
 have vF := iA hv
 have hnb := vF.nb
 have hbn : block.toNat < c.blocks.length := by omega
 have hbl := hins block.toNat
 refine aa ?_
 refine wUo 1 0 [(0, .o ag)] 22 22 [] [(22, ag)] (qn 24 0 3 (HS.hc T (i := 0) rfl) rfl rfl rfl rfl) rfl fun _ => ?_
 refine az (ap rfl rfl rfl) rfl rfl (mi.rblocks_c ex c (HS.call T) (by first | (dsimp only; omega) | omega) (by first | (dsimp only; omega) | omega) J hT (by assumption)) ?_
 rintro _ H9 ⟨d1, d4, x9, V, Y, U, F9, ax, N, rfl, ds, ay, d3, d2⟩
 replace N : HS _ _ _ [_] _ := HS.back T rfl N
 replace hT := hT.mono ax
 replace J := J.mono ax
 refine wTo 5 2 [] 24 25 [5, 6, 21] [(6, (.slice V U.length Y))] rfl fun _ => ?_
 refine ae 2 rfl ?_
 have bk := (by assumption : cx c = true → BkF c _ U) hv
 have hlx := bk.lx
 have hly := bk.ly
 have hyl := Lst.len (bk.hy block.toNat hbn) vF.regs.1 (fun r h => gx vF h)
 refine aY rfl ?_
 refine aB (v := (.pointer (some ⟨b1, 2, none⟩))) (id := .v) (dG rfl rfl) rfl rfl (dQ rfl) (cO _) ?_
 refine aB (v := (.slice z c.blocks.length E)) (id := .l b1) (bt (i := 2) rfl rfl (HS.hc N.log0 (i := 0) rfl) rfl rfl) rfl rfl (bG rfl) (⟨.inl rfl, trivial⟩) ?_
 refine fm (iI block) rfl rfl rfl ?_
 refine aB (v := (.pointer (some ⟨sB (.slice z c.blocks.length E), sO (.slice z c.blocks.length E) + block.toNat * Rp.sz BlkT, none⟩))) (id := .v) (bd (α := BlkT) (j := block) rfl rfl rfl rfl (SR.sv J N.log0) (by first | (dsimp only; omega) | omega) (by first | (dsimp only; omega) | omega)) rfl rfl (dQ rfl) (cO _) ?_
 obtain ⟨c5, b4, b2⟩ := Sv.at (SR.sv J N.log0) (aK (x := default) (show block.toNat < c.blocks.length from by first | (dsimp only; omega) | omega))
 obtain ⟨a2, a6, rfl, ci, cl, co, c0, a8⟩ := b4
 refine aB (v := (.agg ⟨[(.slice a2 (c.blocks.getD block.toNat default).ins.length a6), (iI (c.blocks.getD block.toNat default).fin), (iI (c.blocks.getD block.toNat default).reg), (iI (c.blocks.getD block.toNat default).tgt), (iI (c.blocks.getD block.toNat default).els)]⟩)) (id := .l (sB (.slice z c.blocks.length E))) (dL (i := 0) rfl rfl rfl b2 rfl rfl rfl) rfl rfl (bG rfl) (⟨.inl rfl, ⟨.inl rfl, ⟨.inl rfl, ⟨.inl rfl, trivial⟩⟩⟩⟩) ?_
 refine fm (.slice V U.length Y) rfl rfl rfl ?_
 refine fm (iI block) rfl rfl rfl ?_
 refine aB (v := (.pointer (some ⟨sB (.slice V U.length Y), sO (.slice V U.length Y) + block.toNat * Rp.sz (List Int), none⟩))) (id := .v) (bd (α := (List Int)) (j := block) rfl rfl rfl rfl (SR.sv ay N.log0) (by first | (dsimp only; omega) | omega) (by first | (dsimp only; omega) | omega)) rfl rfl (dQ rfl) (cO _) ?_
 obtain ⟨c7, b6, b3⟩ := Sv.at (SR.sv ay N.log0) (aK (x := default) (show block.toNat < U.length from by first | (dsimp only; omega) | omega))
 obtain ⟨a3, a7, rfl, a9⟩ := b6
 refine aB (v := (.slice a3 (U.getD block.toNat default).length a7)) (id := .l (sB (.slice V U.length Y))) (bt (i := 0) rfl rfl b3 rfl rfl) rfl rfl (bG rfl) (⟨.inl rfl, ⟨.inl rfl, ⟨.inl rfl, ⟨.inr trivial, ⟨.inr trivial, ⟨.inr trivial, ⟨.inr trivial, ⟨.inr trivial, trivial⟩⟩⟩⟩⟩⟩⟩⟩) ?_
 refine bj (W := []) (ap rfl rfl rfl) rfl rfl rfl (mh.rpoints_c ex (c.blocks.getD block.toNat default) (U.getD block.toNat default) (HS.call N.log0) a8 (by first | (dsimp only; omega) | omega) (by first | (dsimp only; omega) | omega) (by first | (dsimp only; omega) | omega) (by first | (dsimp only; omega) | omega) a9 hT (by exact ⟨_, rpo_out vF hbn hbl (bk.hy _ hbn)⟩)) (⟨.inl rfl, ⟨.inl rfl, ⟨.inl rfl, ⟨.inl rfl, ⟨.inl rfl, ⟨.inl rfl, ⟨.inl rfl, ⟨.inl rfl, ⟨.inl rfl, trivial⟩⟩⟩⟩⟩⟩⟩⟩⟩) ?_
 rintro _ cc ⟨an, a1, bb, ch, dt, bz, A, rfl, a5, c8⟩
 refine ⟨Wr.did A.log, fun b9 a4 => ?_⟩
 replace A := HS.back N.log0 rfl A
 replace A := HS.lg A N a4
 generalize ({ cc with log := b9 } : Heap) = c4 at A ⊢
 have A : HS _ _ _ [_, ch] _ := A
 refine fa (.slice an bb.length a1) rfl rfl rfl ?_
 refine cu ?_
 refine ah 1 rfl ?_
 obtain ⟨dv, b0, Z, b7, dn⟩ := OS.frz a5 A (i := 1) rfl
 have Z : HS _ _ _ [_, []] _ := Z
 refine ak ⟨.inr rfl, _, rfl, an, a1, bb, _, (fT (fT (fT (ad) ax) bz) b0), (HS.forget Z), rfl, b7, (by first | exact fun h h2 h3 => absurd hb (by simp [h]; omega) | exact fun _ _ _ => ptf_of (bk.hy _ hbn) (by assumption)), (by first | exact fun _ => rfl | exact fun h => by rw [hv] at h; simp at h; omega)⟩
end Go.Proofs.YtknafdcgpaejlaaDoor.mj
