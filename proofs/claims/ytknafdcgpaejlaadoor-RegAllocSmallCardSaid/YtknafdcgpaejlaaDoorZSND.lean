/-
 The allocator on code of at most five registers without calls: it spills nothing; by a symbolic run. No condition but those named.
-/
import Derived.Test.YtknafdcgpaejlaaDoorZSNC
noncomputable section
namespace Go.Proofs.YtknafdcgpaejlaaDoor.nd
open Go.R
set_option maxRecDepth 10000
set_option linter.unusedVariables false
set_option linter.unusedSimpArgs false
structure LocT where
 inS : Bool
 idx : Int
 deriving Inhabited, DecidableEq
instance : Rp LocT where
 sz := 2
 rep F cs x := cs = [.bool x.inS, .int .i64 x.idx] ∧ in64 x.idx
 len := by rintro F cs x ⟨rfl, _⟩; rfl
 one := by rintro F cs x ⟨rfl, _⟩; rfl
 mono := by intro F F' cs x _ h; exact h
structure SpiT where
 reg : Int
 why : Int
 blk : Int
 idx : Int
 oth : (List Int)
 deriving Inhabited, DecidableEq
instance : Rp SpiT where
 sz := 5
 rep F cs x := ∃ a4 k4, cs = [.int .i64 x.reg, .int .i64 x.why, .int .i64 x.blk, .int .i64 x.idx, .slice a4 x.oth.length k4] ∧ in64 x.reg ∧ in64 x.why ∧ in64 x.blk ∧ in64 x.idx ∧ SR F (.slice a4 x.oth.length k4) x.oth
 len := by rintro F cs x ⟨a4, k4, rfl, _⟩; rfl
 one := by rintro F cs x ⟨a4, k4, rfl, _⟩; rfl
 mono := by rintro F F' cs x hF ⟨a4, k4, rfl, h0, h1, h2, h3, h4⟩; exact ⟨a4, k4, rfl, h0, h1, h2, h3, h4.mono hF⟩
structure AllT where
 locs : (List LocT)
 spi : (List SpiT)
 slots : Int
 deriving Inhabited, DecidableEq
instance : Rp AllT where
 sz := 3
 rep F cs x := ∃ a0 k0 a1 k1, cs = [.slice a0 x.locs.length k0, .slice a1 x.spi.length k1, .int .i64 x.slots] ∧ in64 x.slots ∧ SR F (.slice a0 x.locs.length k0) x.locs ∧ SR F (.slice a1 x.spi.length k1) x.spi
 len := by rintro F cs x ⟨a0, k0, a1, k1, rfl, _⟩; rfl
 one := by rintro F cs x ⟨a0, k0, a1, k1, rfl, _⟩; rfl
 mono := by rintro F F' cs x hF ⟨a0, k0, a1, k1, rfl, h0, h1, h2⟩; exact ⟨a0, k0, a1, k1, rfl, h0, h1.mono hF, h2.mono hF⟩
structure PntT where
 blk : Int
 idx : Int
 deriving Inhabited, DecidableEq
instance : Rp PntT where
 sz := 2
 rep F cs x := cs = [.int .i64 x.blk, .int .i64 x.idx] ∧ in64 x.blk ∧ in64 x.idx
 len := by rintro F cs x ⟨rfl, _⟩; rfl
 one := by rintro F cs x ⟨rfl, _⟩; rfl
 mono := by intro F F' cs x _ h; exact h
open m1 m2 m3 m4 m5 m6 ma ml mb mc md mf mg mh mi mj na nb nc
theorem inte_lt {c : VFnT} (v : VF c) {a x : Nat} (h : intE c a x) : (a : Int) < c.regs ∧ (x : Int) < c.regs ∧ x ≠ a := by
 obtain ⟨b, i, A, E, I, J, N⟩ := h
 refine ⟨((cb (v.ins b A i E)).2.1 _ I).2, jr v A J, fun e => ?_⟩
 have := N.1
 omega
theorem sy_lt {c : VFnT} (v : VF c) {r y : Nat} (h : Sy (intE c) r y) : (y : Int) < c.regs ∧ y ≠ r := by
 rcases h with h | h
 ·
  have := inte_lt v h; exact ⟨this.2.1, this.2.2⟩
 have := inte_lt v h; exact ⟨this.1, fun e => this.2.2 e.symm⟩
theorem lst_none {l : List Int} {S : Nat → Prop} (h : Lst l S) (hs : ∀ r, ¬ S r) : l = [] := List.eq_nil_iff_forall_not_mem.2 fun x hx => hs _ ((h.mem x).1 hx).2
theorem acs_none {c : VFnT} {l : List Int} (h : Lst l (acS c)) (hno : ∀ b i, (insN c b i).i.op ≠ 6) : l = [] := lst_none h fun r ⟨b, i, _, _, A⟩ => hno b i A.1
theorem rep_at {n r : Nat} : (List.replicate n false).getD r false = false := by rw [List.getD_eq_getElem?_getD, List.getElem?_replicate]; split <;> rfl
def LocF (ll : List LocT) (r : Nat) : Prop := ∀ j, j < r → (ll.getD j default).inS = false ∧ 0 ≤ (ll.getD j default).idx ∧ (ll.getD j default).idx < 5
theorem loc_set {ll : List LocT} {r : Nat} {x : LocT} (h : LocF ll r) (hr : r < ll.length) (hx : x.inS = false ∧ 0 ≤ x.idx ∧ x.idx < 5) : LocF (ll.set r x) (r + 1) := fun j hj => by
 rw [ec]
 by_cases e : r = j
 ·
  rw [if_pos ⟨e, by omega⟩]; exact hx
 rw [if_neg (fun h => e h.1)]; exact h j (by omega)
def OwF (ll : List LocT) (r : Nat) (ow : List Int) : Prop := ow.length = 5 ∧ ∀ k, k < 5 → ow.getD k 0 < 0 ∨ 0 ≤ ow.getD k 0 ∧ ow.getD k 0 < (r : Int) ∧ (ll.getD (ow.getD k 0).toNat default).idx = (k : Int)
theorem ow_zero {ll : List LocT} {r k : Nat} {ow : List Int} (hl : ow.length = 5) (hk : 5 ≤ k) (h : ∀ j, j < k → ow.getD j 0 = -1) : OwF ll r ow := ⟨hl, fun j hj => .inl (by rw [h j (by omega)]; decide)⟩
theorem ow_set {ll : List LocT} {r : Nat} {ow : List Int} {n : Int} (h : OwF ll r ow) (hn : 0 ≤ n ∧ n < (r : Int)) (hi : 0 ≤ (ll.getD n.toNat default).idx ∧ (ll.getD n.toNat default).idx < 5) : OwF ll r (ow.set (ll.getD n.toNat default).idx.toNat n) := ⟨by rw [List.length_set]; exact h.1, fun k hk => by
 by_cases e : (ll.getD n.toNat default).idx.toNat = k
 ·
  subst e
  rw [List.getD_eq_getElem?_getD, List.getElem?_set_self (by have := h.1; omega), Option.getD_some]
  exact .inr ⟨hn.1, hn.2, by omega⟩
 rw [List.getD_eq_getElem?_getD, List.getElem?_set_ne e, ← List.getD_eq_getElem?_getD]; exact h.2 k hk⟩
theorem om_set {ow : List Int} {k : Nat} (hl : ow.length = 5) (hk : k < 5) (h : ∀ j, j < k → ow.getD j 0 = -1) : ∀ j, j < k + 1 → (ow.set k (-1)).getD j 0 = -1 := fun j hj => by
 by_cases e : k = j
 ·
  subst e; rw [List.getD_eq_getElem?_getD, List.getElem?_set_self (by omega)]; rfl
 rw [List.getD_eq_getElem?_getD, List.getElem?_set_ne e, ← List.getD_eq_getElem?_getD]; exact h j (by omega)
theorem ow_free {ll : List LocT} {r : Nat} {ow : List Int} (h : OwF ll r ow) (hr : r < 5) (hk : ∀ j, j < 5 → 0 ≤ ow.getD j 0) : False := by
 have g : ∀ k, k < 5 → 0 ≤ ow.getD k 0 ∧ ow.getD k 0 < 4 ∧ (ll.getD (ow.getD k 0).toNat default).idx = (k : Int) := fun k E => by
  have I := hk k E
  rcases h.2 k E with A | A
  ·
   omega
  exact ⟨I, by omega, A.2.2⟩
 have ne : ∀ i j, i < 5 → j < 5 → i ≠ j → ow.getD i 0 ≠ ow.getD j 0 := fun i j hi hj hij e => by
  have I := (g i hi).2.2
  have A := (g j hj).2.2
  rw [e, A] at I
  omega
 have J := g 0 (by omega)
 have N := g 1 (by omega)
 have O := g 2 (by omega)
 have T := g 3 (by omega)
 have U := g 4 (by omega)
 have V := ne 0 1 (by omega) (by omega) (by omega)
 have Z := ne 0 2 (by omega) (by omega) (by omega)
 have n3 := ne 0 3 (by omega) (by omega) (by omega)
 have n4 := ne 0 4 (by omega) (by omega) (by omega)
 have n5 := ne 1 2 (by omega) (by omega) (by omega)
 have n6 := ne 1 3 (by omega) (by omega) (by omega)
 have n7 := ne 1 4 (by omega) (by omega) (by omega)
 have n8 := ne 2 3 (by omega) (by omega) (by omega)
 have n9 := ne 2 4 (by omega) (by omega) (by omega)
 have n0 := ne 3 4 (by omega) (by omega) (by omega)
 omega
theorem nn_step {ow : List Int} {k : Nat} (h : ∀ j, j < k → 0 ≤ ow.getD j 0) (hk : 0 ≤ ow.getD k 0) : ∀ j, j < k + 1 → 0 ≤ ow.getD j 0 := fun j hj => by
 rcases Nat.lt_or_ge j k with A | A
 ·
  exact h j A
 rw [show j = k by omega]; exact hk
set_option maxHeartbeats 4000000 in
theorem alloc_c (ex : FuncId) {Z : Option Addr} {ad : Nat} (c : VFnT) {F : Fz} {H : Heap} {R : List Fp} (hs : HS (.of H []) F H [] R) (n3 : in64 c.params) (n4 : in64 c.regs) (an : SR F (.slice Z c.blocks.length ad) c.blocks) (hT : TB 37 tabC F) (hins : ∀ j, (c.blocks.getD j default).ins.length ≤ 1073741822) (hv : ef c = true) (h5 : c.regs ≤ 5) (hno : ∀ b i, (insN c b i).i.op ≠ 6) (hz : ∀ r, ¬ ptS c 0 0 r) : C Tryd.prog 1 (KT 60 ex 37 tabC) 25 [(.agg ⟨[(iI c.params), (iI c.regs), (.slice Z c.blocks.length ad)]⟩)] H fun v H' => ∃ (x : AllT) (j1 : Option Addr) (kH : Nat) (j2 : Option Addr) (kI : Nat) (e : Int) (F' : Fz), Fz.le F F' ∧ HS (.of H []) F' H' [] R ∧ v = .tuple ⟨[.agg ⟨[.slice j1 x.locs.length kH, .slice j2 x.spi.length kI, .int .i64 x.slots]⟩, .int .i64 e]⟩ ∧ in64 x.slots ∧ SR F' (.slice j1 x.locs.length kH) x.locs ∧ SR F' (.slice j2 x.spi.length kI) x.spi ∧ e = 0 ∧ (x.locs.length = c.regs.toNat) ∧ (x.spi = []) ∧ (x.slots = c.params) := by
 have vF := vF_of hv
 have hnb := vF.nb
 have hrg := vF.regs
 have hpr := vF.params
 have oU := hins 0
 have hsl : (List.replicate c.regs.toNat false).length = c.regs.toNat := List.length_replicate
 have n8 : (List.replicate c.regs.toNat (default : LocT)).length = c.regs.toNat := List.length_replicate
 refine aM Tryd.func25 rfl rfl ?_
 refine am 1 rfl ?_
 refine aa ?_
 refine aK (cF hs rfl rfl) rfl rfl ?_
 rintro _ H2 _ ⟨b1, rfl, (mG : HS _ _ _ [[(b1, .cells [(iI c.params), (iI c.regs), (.slice Z c.blocks.length ad)] none false)]] _), _⟩
 refine aK (bx mG rfl) rfl rfl ?_
 rintro _ H4 _ ⟨b3, rfl, (kt : HS _ _ _ [_, [(b3, .cells [(.slice none 0 0), (.slice none 0 0), (iI 0)] none false)]] _), _⟩
 refine wa (iI 0) rfl rfl rfl ?_
 refine aj 3 rfl ?_
 refine aa ?_
 let dl : Value := (.agg ⟨[(iI c.params), (iI c.regs), (.slice Z c.blocks.length ad)]⟩)
 refine wRo 1 0 [(0, .o dl)] 6 6 [] [(6, dl)] (vA (qn 24 0 3 (HS.hc kt (i := 0) rfl) rfl rfl rfl rfl) trivial) rfl fun _ => ?_
 refine aE (aB rfl rfl rfl) rfl rfl (m3.gV ex c (HS.call kt) (by first | (dsimp only; omega) | omega) (by first | (dsimp only; omega) | omega) an hT (by exact fun j => Nat.le_trans (hins j) (by omega))) ?_
 rintro _ H6 ⟨r6, F6, kd, fi, rfl, rfl⟩
 replace fi : HS _ _ _ [_, _] _ := HS.back kt rfl fi
 replace hT := hT.mono kd
 replace an := an.mono kd
 refine wRo 1 2 [] 8 8 [] [(8, (.bool (!(ef c))))] trivial rfl fun _ => ?_
 refine aj 1 rfl ?_
 refine gR 2 (v := (!(ef c))) rfl (by rw [hv]; rfl) rfl rfl ?_
 refine bL rfl ?_
 refine aO (v := dl) (id := .l b1) (ap_ldN (i := 0) rfl rfl rfl (HS.hc fi.log0 (i := 0) rfl) rfl rfl rfl) rfl rfl (ey rfl) trivial ?_
 refine aO (v := dl) (id := .l b1) (ap_ldN (i := 0) rfl rfl rfl (HS.hc fi.log0 (i := 0) rfl) rfl rfl rfl) rfl rfl (ey rfl) (⟨.inr trivial, trivial⟩) ?_
 refine eg (W := []) (aB rfl rfl rfl) rfl rfl rfl (na.points_c ex c (HS.call fi.log0) (by first | (dsimp only; omega) | omega) (by first | (dsimp only; omega) | omega) an hT (by first | assumption | omega) (by first | assumption | omega)) (⟨.inl rfl, ⟨.inr List.not_mem_nil, trivial⟩⟩) ?_
 rintro _ H8 ⟨a2, a5, J, p8, F8, ke, c6, rfl, a1, h8⟩
 refine ⟨Wr.did c6.log, fun mI lV => ?_⟩
 replace c6 := HS.back fi.log0 rfl c6
 replace c6 := HS.lg c6 fi lV
 generalize ({ H8 with log := mI } : Heap) = oJ at c6 ⊢
 have c6 : HS _ _ _ [_, _, p8] _ := c6
 replace hT := hT.mono ke
 replace an := an.mono ke
 refine aO (v := (.pointer (some ⟨b1, 1, none⟩))) (id := .v) (fF rfl rfl) rfl rfl (dD rfl) (du _) ?_
 refine aO (v := (iI c.regs)) (id := .l b1) (b8 (i := 1) rfl rfl (HS.hc c6.log0 (i := 0) rfl) rfl rfl) rfl rfl (ey rfl) (⟨.inl rfl, ⟨.inr List.not_mem_nil, ⟨.inr trivial, ⟨.inr trivial, trivial⟩⟩⟩⟩) ?_
 refine dC (id := .x []) (cV false c6.log0 rfl rfl rfl rfl rfl rfl rfl rfl rfl rfl (by first | (dsimp only; omega) | omega) (by first | (dsimp only; omega) | omega)) rfl rfl (by rintro _ _ p9 ⟨a9, k9, rfl, ar, _, hwr⟩; exact d3 rfl rfl (Wr.did hwr)) (⟨.inl rfl, ⟨.inl rfl, ⟨.inr ⟨trivial, trivial⟩, ⟨.inr List.not_mem_nil, ⟨.inr List.not_mem_nil, trivial⟩⟩⟩⟩⟩) ?_
 rintro _ mx p9 ⟨a9, k9, rfl, ar, dt, _⟩ me k5
 replace dt := HS.lg dt c6 k5
 generalize ({ mx with log := me } : Heap) = nB at dt ⊢
 have dt : HS _ _ _ [_, _, _, p9] _ := dt
 refine aO (v := (.agg ⟨[(iI c.params), (iI c.regs), (.slice Z c.blocks.length ad), (.slice a2 J.length a5), (.slice a9 (List.replicate c.regs.toNat false).length k9), (.slice none 0 0), (.slice none 0 0), (iI 0)]⟩)) (id := .v) (ap_bld rfl rfl (by kernel_rfl)) rfl rfl (dD rfl) (du _) ?_
 refine dC (id := .a) (cF dt.log0 rfl rfl) rfl rfl (fun _ _ _ _ => did_a rfl rfl rfl) (⟨.inl rfl, ⟨.inl rfl, ⟨.inl rfl, ⟨.inl rfl, ⟨.inl rfl, ⟨.inl rfl, ⟨.inl rfl, trivial⟩⟩⟩⟩⟩⟩⟩) ?_
 rintro _ my _ ⟨T, rfl, a4, _⟩ mk k6
 replace a4 := HS.lg a4 dt k6
 generalize ({ my with log := mk } : Heap) = nG at a4 ⊢
 have a4 : HS _ _ _ [_, _, _, _, [(T, .cells [(iI c.params), (iI c.regs), (.slice Z c.blocks.length ad), (.slice a2 J.length a5), (.slice a9 (List.replicate c.regs.toNat false).length k9), (.slice none 0 0), (.slice none 0 0), (iI 0)] none false)]] _ := a4
 refine fa (.pointer (some ⟨T, 0, none⟩)) rfl rfl rfl ?_
 refine d8 ?_
 refine am 3 rfl ?_
 have ps := (by assumption : PsF c _)
 have psl := ps.len
 have lI := ps.at_ 0 (by omega)
 have pxl := lI.len
 have mH : ((J).getD 0 default).getD 0 default = [] := lst_none (lI.pt 0 (Nat.zero_le _)) hz
 obtain ⟨j9, kw⟩ := Sv.view (OS.sv a1 a4 (i := 2) rfl)
 have lJ := fL (kw 0)
 obtain ⟨ka, kx⟩ := Sv.view (SR.sv lJ a4)
 have o0 := fL (kx 0)
 refine wR 1 [(3, .o (.slice a2 J.length a5)), (5, .o (.slice (cA (j9 0) 0) (J.getD 0 default).length (cK (j9 0) 0))), (7, .o (.slice (cA (ka 0) 0) ((J.getD 0 default).getD 0 default).length (cK (ka 0) 0)))] 18 27 [] [(27, (.bool (decide ((0 : Int) < (((J.getD 0 default).getD 0 default).length : Int)))))] (vA (ql 90 3 (HS.hc a4 (i := 4) rfl) rfl rfl) (vA (Sv.ix (j := 0) (OS.sv a1 a4 (i := 2) rfl) (by decide) (by first | (dsimp only; omega) | omega)) (vA (ql 32 0 (vL (kw 0) (by first | (dsimp only; omega) | omega)) rfl rfl) (vA (Sv.ix (j := 0) (SR.sv lJ a4) (by decide) (by first | (dsimp only; omega) | omega)) (vA (ql 25 0 (vL (kx 0) (by first | (dsimp only; omega) | omega)) rfl rfl) trivial))))) rfl fun _ => ?_
 refine gR 2 (v := (decide ((0 : Int) < (((J.getD 0 default).getD 0 default).length : Int)))) rfl (by simp only [mH]; rfl) rfl rfl ?_
 refine aa ?_
 refine wRo 3 0 [(2, .o (iI c.regs))] 29 31 [] [(29, (.pointer (some ⟨T, 0, none⟩))), (31, (iI c.regs))] (vA (ql 3 1 (HS.hc a4 (i := 0) rfl) rfl rfl) trivial) rfl fun _ => ?_
 refine aK (cV (default : LocT) a4 rfl rfl rfl rfl rfl rfl rfl rfl rfl ⟨rfl, by decide⟩ (by first | (dsimp only; omega) | omega) (by first | (dsimp only; omega) | omega)) rfl rfl ?_
 rintro _ ol ci ⟨hW, ja, rfl, ds, (lY : HS _ _ _ [_, _, _, _, _, ci] _), _⟩
 refine wRo 3 4 [] 33 35 [] [(35, (.pointer (some ⟨T, 5, none⟩)))] trivial rfl fun _ => ?_
 refine aT (aP (q := 4) lY rfl rfl rfl rfl rfl rfl rfl rfl rfl) rfl ?_
 rintro _ om _ ⟨(kn : HS _ _ _ [_, _, _, _, [(T, .cells [(iI c.params), (iI c.regs), (.slice Z c.blocks.length ad), (.slice a2 J.length a5), (.slice a9 (List.replicate c.regs.toNat false).length k9), (.slice hW (List.replicate c.regs.toNat (default : LocT)).length ja), (.slice none 0 0), (iI 0)] none false)], _] _), _⟩
 refine aj 2 rfl ?_
 refine aa ?_
 refine wm (.pointer (some ⟨T, 0, none⟩)) rfl rfl rfl ?_
 let a7 : Fp := [(b1, .cells [(iI c.params), (iI c.regs), (.slice Z c.blocks.length ad)] none false)]
 let a8 : Fp := [(b3, .cells [(.slice none 0 0), (.slice none 0 0), (iI 0)] none false)]
 let dn : Fp := [(T, .cells [(iI c.params), (iI c.regs), (.slice Z c.blocks.length ad), (.slice a2 J.length a5), (.slice a9 (List.replicate c.regs.toNat false).length k9), (.slice hW (List.replicate c.regs.toNat (default : LocT)).length ja), (.slice none 0 0), (iI 0)] none false)]
 refine aE (R := fun v H' => ∃  (F' : Fz), Fz.le F8 F' ∧ HS (Base.of H []) F' H' [a7, a8, p8, p9, dn, ci] R ∧ v = .tuple #[]) (aB rfl rfl rfl) rfl rfl ?_ ?_
 ·
  refine aM Tryd.func60 rfl rfl ?_
  refine am 1 rfl ?_
  refine aa ?_
  refine wRo 5 0 [(4, .o (iI c.regs))] 12 16 [] [(16, (iI c.regs))] (vA (ql 3 1 (HS.hc kn (i := 4) rfl) rfl rfl) trivial) rfl fun _ => ?_
  refine aK (cV (default : PntT) kn rfl rfl rfl rfl rfl rfl rfl rfl rfl ⟨rfl, by decide, by decide⟩ (by first | (dsimp only; omega) | omega) (by first | (dsimp only; omega) | omega)) rfl rfl ?_
  rintro _ oq kO ⟨jZ, kF, rfl, n5, (ko : HS _ _ _ [_, _, _, _, _, _, kO] _), _⟩
  refine wa (.slice jZ (List.replicate c.regs.toNat (default : PntT)).length kF) rfl rfl rfl ?_
  refine aj 2 rfl ?_
  refine aa ?_
  refine wRo 5 0 [(4, .o (iI c.regs))] 18 22 [] [(22, (iI c.regs))] (vA (ql 3 1 (HS.hc ko (i := 4) rfl) rfl rfl) trivial) rfl fun _ => ?_
  refine aK (cV false ko rfl rfl rfl rfl rfl rfl rfl rfl rfl rfl (by first | (dsimp only; omega) | omega) (by first | (dsimp only; omega) | omega)) rfl rfl ?_
  rintro _ ot kP ⟨j0, kG, rfl, n6, (kp : HS _ _ _ [_, _, _, _, _, _, _, kP] _), _⟩
  refine wa (.slice j0 (List.replicate c.regs.toNat false).length kG) rfl rfl rfl ?_
  refine aj 3 rfl ?_
  refine wR 2 [(4, .o (.slice Z c.blocks.length ad))] 24 30 [] [(28, (.slice Z c.blocks.length ad)), (29, (iI (c.blocks.length : Int))), (30, (iI 0))] (vA (ql 22 2 (HS.hc kp (i := 4) rfl) rfl rfl) trivial) rfl fun _ => ?_
  refine ak (fun (mm : Nat) f H' => ∃ (k : Nat) (F' : Fz), Fz.le F8 F' ∧ HS (Base.of H []) F' H' [a7, a8, p8, p9, dn, ci, kO, kP] R ∧ aH f [(0, (.pointer (some ⟨T, 0, none⟩))), (2, (.slice jZ (List.replicate c.regs.toNat (default : PntT)).length kF)), (3, (.slice j0 (List.replicate c.regs.toNat false).length kG)), (28, (.slice Z c.blocks.length ad)), (29, (iI (c.blocks.length : Int))), (30, (iI (k : Int)))] ∧ mm = c.blocks.length - k ∧ (k ≤ c.blocks.length)) _ ⟨0, _, fR, kp, (agC rfl (agC rfl (agC rfl (agC rfl (agC rfl (agC rfl agN)))))), rfl, (by first | assumption | omega | (simp at *; omega))⟩ ?_
  rintro oa oN ou ⟨k, mr, g1, et, kh, rfl, hk⟩ l6
  refine aq _ kh (fun _ => ?_)
  clear kh
  replace hT := hT.mono g1
  replace an := an.mono g1
  refine am 1 rfl ?_
  refine wR 2 [] 31 31 [] [(31, (.bool (decide ((k : Int) < (c.blocks.length : Int)))))] trivial rfl fun _ => ?_
  refine au 4 5 (v := (decide ((k : Int) < (c.blocks.length : Int)))) rfl rfl rfl rfl (fun hA => ?_) (fun hA => ?_)
  ·
   have j3 := hA
   try simp only [BS] at j3
   have hbl := hins k
   refine aa ?_
   obtain ⟨a3, ky⟩ := Sv.view (SR.sv an et)
   obtain ⟨mT, mU, mV, mW, e4⟩ := BlkT.fx (ky k)
   let kS : Value := (.agg ⟨[(.slice (cA (a3 k) 0) (c.blocks.getD k default).ins.length (cK (a3 k) 0)), (iI (c.blocks.getD k default).fin), (iI (c.blocks.getD k default).reg), (iI (c.blocks.getD k default).tgt), (iI (c.blocks.getD k default).els)]⟩)
   refine wRo 3 0 [(2, .o kS)] 32 34 [] [(32, (iI (k : Int))), (34, kS)] (vA (Sv.ix (j := (k : Int)) (SR.sv an et) (by first | (dsimp only; omega) | omega) (by first | (dsimp only; omega) | omega)) (vA (qn 48 0 5 (BlkT.vw (ky k) (by first | (dsimp only; omega) | omega)) rfl rfl rfl rfl) trivial)) rfl fun _ => ?_
   refine aK (bx et rfl) rfl rfl ?_
   rintro _ ov _ ⟨hX, rfl, (lZ : HS _ _ _ [_, _, _, _, _, _, _, _, [(hX, .cells [(.slice none 0 0), (iI 0), (iI 0), (iI 0), (iI 0)] none false)]] _), _⟩
   refine wa (iI (k : Int)) rfl rfl rfl ?_
   refine aT (aP (q := 8) lZ rfl rfl rfl rfl rfl rfl rfl rfl rfl) rfl ?_
   rintro _ ow _ ⟨(kr : HS _ _ _ [_, _, _, _, _, _, _, _, [(hX, .cells [(.slice (cA (a3 k) 0) (c.blocks.getD k default).ins.length (cK (a3 k) 0)), (iI (c.blocks.getD k default).fin), (iI (c.blocks.getD k default).reg), (iI (c.blocks.getD k default).tgt), (iI (c.blocks.getD k default).els)] none false)]] _), _⟩
   refine aj 2 rfl ?_
   refine wR 2 [(1, .o (.slice (cA (a3 k) 0) (c.blocks.getD k default).ins.length (cK (a3 k) 0)))] 35 38 [] [(36, (.slice (cA (a3 k) 0) (c.blocks.getD k default).ins.length (cK (a3 k) 0))), (37, (iI ((c.blocks.getD k default).ins.length : Int))), (38, (iI 0))] (vA (ql 46 0 (HS.hc kr (i := 8) rfl) rfl rfl) trivial) rfl fun _ => ?_
   refine ak (fun (mm : Nat) f H' => ∃ (i : Nat) (F' : Fz), Fz.le mr F' ∧ HS (Base.of H []) F' H' [a7, a8, p8, p9, dn, ci, kO, kP, [(hX, .cells [(.slice (cA (a3 k) 0) (c.blocks.getD k default).ins.length (cK (a3 k) 0)), (iI (c.blocks.getD k default).fin), (iI (c.blocks.getD k default).reg), (iI (c.blocks.getD k default).tgt), (iI (c.blocks.getD k default).els)] none false)]] R ∧ aH f [(0, (.pointer (some ⟨T, 0, none⟩))), (2, (.slice jZ (List.replicate c.regs.toNat (default : PntT)).length kF)), (3, (.slice j0 (List.replicate c.regs.toNat false).length kG)), (4, (iI (k : Int))), (5, (.pointer (some ⟨hX, 0, none⟩))), (28, (.slice Z c.blocks.length ad)), (29, (iI (c.blocks.length : Int))), (30, (iI (k : Int))), (31, (.bool (decide ((k : Int) < (c.blocks.length : Int))))), (32, (iI (k : Int))), (34, kS), (36, (.slice (cA (a3 k) 0) (c.blocks.getD k default).ins.length (cK (a3 k) 0))), (37, (iI ((c.blocks.getD k default).ins.length : Int))), (38, (iI (i : Int)))] ∧ mm = (c.blocks.getD k default).ins.length - i ∧ (i ≤ (c.blocks.getD k default).ins.length)) _ ⟨0, _, fR, kr, (agC rfl (agC rfl (agC rfl (agC rfl (agC rfl (agC rfl (agC rfl (agC rfl (agC rfl (agC rfl (agC rfl (agC rfl (agC rfl (agC rfl agN)))))))))))))), rfl, (by first | assumption | omega | (simp at *; omega))⟩ ?_
   rintro ob oO ox ⟨i, og, hG, g6, ki, rfl, hi⟩ l7
   refine aq _ ki (fun _ => ?_)
   clear ki
   replace e4 := e4.mono hG
   refine am 1 rfl ?_
   refine wR 2 [] 39 39 [] [(39, (.bool (decide ((i : Int) < ((c.blocks.getD k default).ins.length : Int)))))] trivial rfl fun _ => ?_
   refine au 4 5 (v := (decide ((i : Int) < ((c.blocks.getD k default).ins.length : Int)))) rfl rfl rfl rfl (fun hB => ?_) (fun hB => ?_)
   ·
    have j4 := hB
    try simp only [BS] at j4
    refine aa ?_
    obtain ⟨go, kz⟩ := Sv.view (SR.sv e4 g6)
    obtain ⟨mX, mY, mZ, m0, m7, nv⟩ := VInT.fx (kz i)
    let lL : Value := (.agg ⟨[(iI ((c.blocks.getD k default).ins.getD i default).i.op), (iI ((c.blocks.getD k default).ins.getD i default).i.a), (iI ((c.blocks.getD k default).ins.getD i default).i.b), (iI ((c.blocks.getD k default).ins.getD i default).i.c), (iI ((c.blocks.getD k default).ins.getD i default).i.n), (.slice (cA (go i) 5) ((c.blocks.getD k default).ins.getD i default).args.length (cK (go i) 5))]⟩)
    refine wRo 3 0 [(2, .o lL)] 40 42 [] [(40, (iI (i : Int))), (42, lL)] (vA (Sv.ix (j := (i : Int)) (SR.sv e4 g6) (by first | (dsimp only; omega) | omega) (by first | (dsimp only; omega) | omega)) (vA (qn 52 0 6 (VInT.vw (kz i) (by first | (dsimp only; omega) | omega)) rfl rfl rfl rfl) trivial)) rfl fun _ => ?_
    refine aK (bx g6 rfl) rfl rfl ?_
    rintro _ oy _ ⟨lC, rfl, (l0 : HS _ _ _ [_, _, _, _, _, _, _, _, _, [(lC, .cells [(iI 0), (iI 0), (iI 0), (iI 0), (iI 0), (.slice none 0 0)] none false)]] _), _⟩
    refine wa (iI (i : Int)) rfl rfl rfl ?_
    refine aT (aP (q := 9) l0 rfl rfl rfl rfl rfl rfl rfl rfl rfl) rfl ?_
    rintro _ oz _ ⟨(ku : HS _ _ _ [_, _, _, _, _, _, _, _, _, [(lC, .cells [(iI ((c.blocks.getD k default).ins.getD i default).i.op), (iI ((c.blocks.getD k default).ins.getD i default).i.a), (iI ((c.blocks.getD k default).ins.getD i default).i.b), (iI ((c.blocks.getD k default).ins.getD i default).i.c), (iI ((c.blocks.getD k default).ins.getD i default).i.n), (.slice (cA (go i) 5) ((c.blocks.getD k default).ins.getD i default).args.length (cK (go i) 5))] none false)]] _), _⟩
    refine aj 3 rfl ?_
    refine wR 1 [(2, .o (iI ((c.blocks.getD k default).ins.getD i default).i.op))] 43 46 [] [(46, (.bool (((c.blocks.getD k default).ins.getD i default).i.op != 6)))] (vA (ql 3 0 (HS.hc ku (i := 9) rfl) rfl rfl) trivial) rfl fun _ => ?_
    refine bC 3 (v := (((c.blocks.getD k default).ins.getD i default).i.op != 6)) rfl (by simpa using hno k i) rfl rfl ?_
    refine wR 1 [] 38 38 [85] [(38, (iI ((i : Int) + 1)))] (vA (vi (n := (i : Int) + 1) (by first | (dsimp only; omega) | omega)) trivial) rfl fun _ => ?_
    refine l7 _ _ _ ?_ ⟨i + 1, _, (hG), (HS.sub ku (List.sublist_append_left _ _)), (agC rfl (agC rfl (agC rfl (agC rfl (agC rfl (agC rfl (agC rfl (agC rfl (agC rfl (agC rfl (agC rfl (agC rfl (agC rfl (agC rfl agN)))))))))))))), rfl, (by first | assumption | omega | (simp at *; omega))⟩
    omega
   have j4 := hB
   try simp only [BS] at j4
   refine wR 1 [] 30 30 [86] [(30, (iI ((k : Int) + 1)))] (vA (vi (n := (k : Int) + 1) (by first | (dsimp only; omega) | omega)) trivial) rfl fun _ => ?_
   refine l6 _ _ _ ?_ ⟨k + 1, _, (fT (g1) hG), (HS.sub g6 (List.sublist_append_left _ _)), (agC rfl (agC rfl (agC rfl (agC rfl (agC rfl (agC rfl agN)))))), rfl, (by first | assumption | omega | (simp at *; omega))⟩
   omega
  have j3 := hA
  try simp only [BS] at j3
  refine aa ?_
  refine wRo 4 0 [(3, .o dl)] 87 90 [] [(90, dl)] (vA (qn 24 0 3 (HS.hc et (i := 4) rfl) rfl rfl rfl rfl) trivial) rfl fun _ => ?_
  refine aE (aB rfl rfl rfl) rfl rfl (mg.across_c ex c (HS.call et) (by first | (dsimp only; omega) | omega) (by first | (dsimp only; omega) | omega) an hT (by exact fun j => Nat.le_trans (hins j) (by omega))) ?_
  rintro _ oA ⟨nN, n9, jb, mJ, oh, lS, hI, rfl, nn, n1, nY⟩
  replace hI : HS _ _ _ [_, _, _, _, _, _, _, _, mJ] _ := HS.back et rfl hI
  refine wRo 2 5 [] 92 93 [] [(92, (iI (jb.length : Int))), (93, (iI 0))] trivial rfl fun _ => ?_
  refine aj 2 rfl ?_
  refine ji ?_
  refine am 1 rfl ?_
  have hac := acs_none ((by assumption : ef c = true → Lst jb (acS c)) hv) hno
  refine wR 2 [] 94 94 [] [(94, (.bool (decide ((0 : Int) < (jb.length : Int)))))] trivial rfl fun _ => ?_
  refine gR 3 (v := (decide ((0 : Int) < (jb.length : Int)))) rfl (by simp only [hac]; rfl) rfl rfl ?_
  refine aZ ⟨.inl rfl, _, rfl, _, (fT (g1) lS), (HS.sub hI (List.sublist_append_left _ _)), rfl⟩
 rintro _ oo ⟨mq, es, hH, rfl⟩
 replace hT := hT.mono es
 replace an := an.mono es
 replace ds := ds.mono es
 replace ar := ar.mono es
 replace a1 := a1.mono es
 refine aj 2 rfl ?_
 refine aa ?_
 refine wm (.pointer (some ⟨T, 0, none⟩)) rfl rfl rfl ?_
 refine aE (R := fun v H' => ∃  (F' : Fz), Fz.le mq F' ∧ HS (Base.of H []) F' H' [a7, a8, p8, p9, dn, ci] R ∧ v = .tuple #[]) (aB rfl rfl rfl) rfl rfl ?_ ?_
 ·
  refine aM Tryd.func61 rfl rfl ?_
  refine am 1 rfl ?_
  refine aa ?_
  refine wRo 4 0 [(3, .o dl)] 10 13 [] [(13, dl)] (vA (qn 24 0 3 (HS.hc hH (i := 4) rfl) rfl rfl rfl rfl) trivial) rfl fun _ => ?_
  refine aE (aB rfl rfl rfl) rfl rfl (nc.uses_c ex c (HS.call hH) (by first | (dsimp only; omega) | omega) (by first | (dsimp only; omega) | omega) an hT (by assumption)) ?_
  rintro _ oC ⟨hf, hR, kJ, mu, g2, g7, rfl, nm, n2, nZ⟩
  replace g7 : HS _ _ _ [a7, a8, p8, p9, dn, ci] _ := HS.back hH rfl g7
  refine wa (.slice hf kJ.length hR) rfl rfl rfl ?_
  refine aj 2 rfl ?_
  refine wR 2 [(4, .o (.slice Z c.blocks.length ad))] 15 21 [] [(19, (.slice Z c.blocks.length ad)), (20, (iI (c.blocks.length : Int))), (21, (iI 0))] (vA (ql 22 2 (HS.hc g7 (i := 4) rfl) rfl rfl) trivial) rfl fun _ => ?_
  refine ak (fun (mm : Nat) f H' => ∃ (k : Nat) (F' : Fz), Fz.le mu F' ∧ HS (Base.of H []) F' H' [a7, a8, p8, p9, dn, ci] R ∧ aH f [(0, (.pointer (some ⟨T, 0, none⟩))), (2, (.slice hf kJ.length hR)), (19, (.slice Z c.blocks.length ad)), (20, (iI (c.blocks.length : Int))), (21, (iI (k : Int)))] ∧ mm = c.blocks.length - k ∧ (k ≤ c.blocks.length)) _ ⟨0, _, fR, g7, (agC rfl (agC rfl (agC rfl (agC rfl (agC rfl agN))))), rfl, (by first | assumption | omega | (simp at *; omega))⟩ ?_
  rintro oc oP oD ⟨k, mv, e6, g8, kj, rfl, hk⟩ l8
  refine aq _ kj (fun _ => ?_)
  clear kj
  replace an := (an.mono g2).mono e6
  replace ar := (ar.mono g2).mono e6
  replace a1 := (a1.mono g2).mono e6
  refine am 1 rfl ?_
  refine wR 2 [] 22 22 [] [(22, (.bool (decide ((k : Int) < (c.blocks.length : Int)))))] trivial rfl fun _ => ?_
  refine au 4 3 (v := (decide ((k : Int) < (c.blocks.length : Int)))) rfl rfl rfl rfl (fun hC => ?_) (fun hC => ?_)
  ·
   have j5 := hC
   try simp only [BS] at j5
   have hbn : k < c.blocks.length := by omega
   have hbl := hins k
   have px := ps.at_ k hbn
   have hpl : (J.getD k default).length = (c.blocks.getD k default).ins.length + 2 := px.len
   refine aa ?_
   obtain ⟨c3, kA⟩ := Sv.view (SR.sv an g8)
   obtain ⟨m8, m9, ne, ng, nw⟩ := BlkT.fx (kA k)
   let hS : Value := (.agg ⟨[(.slice (cA (c3 k) 0) (c.blocks.getD k default).ins.length (cK (c3 k) 0)), (iI (c.blocks.getD k default).fin), (iI (c.blocks.getD k default).reg), (iI (c.blocks.getD k default).tgt), (iI (c.blocks.getD k default).els)]⟩)
   refine wRo 3 0 [(2, .o hS)] 23 25 [] [(23, (iI (k : Int))), (25, hS)] (vA (Sv.ix (j := (k : Int)) (SR.sv an g8) (by first | (dsimp only; omega) | omega) (by first | (dsimp only; omega) | omega)) (vA (qn 48 0 5 (BlkT.vw (kA k) (by first | (dsimp only; omega) | omega)) rfl rfl rfl rfl) trivial)) rfl fun _ => ?_
   refine aK (bx g8 rfl) rfl rfl ?_
   rintro _ oE _ ⟨h0, rfl, (l1 : HS _ _ _ [_, _, _, _, _, _, [(h0, .cells [(.slice none 0 0), (iI 0), (iI 0), (iI 0), (iI 0)] none false)]] _), _⟩
   refine wa (iI (k : Int)) rfl rfl rfl ?_
   refine aT (aP (q := 6) l1 rfl rfl rfl rfl rfl rfl rfl rfl rfl) rfl ?_
   rintro _ oF _ ⟨(l2 : HS _ _ _ [_, _, _, _, _, _, [(h0, .cells [(.slice (cA (c3 k) 0) (c.blocks.getD k default).ins.length (cK (c3 k) 0)), (iI (c.blocks.getD k default).fin), (iI (c.blocks.getD k default).reg), (iI (c.blocks.getD k default).tgt), (iI (c.blocks.getD k default).els)] none false)]] _), _⟩
   refine aj 2 rfl ?_
   refine wR 2 [] 1 0 [5] [(5, (iI 0))] trivial rfl fun _ => ?_
   let hV : Fp := [(h0, .cells [(.slice (cA (c3 k) 0) (c.blocks.getD k default).ins.length (cK (c3 k) 0)), (iI (c.blocks.getD k default).fin), (iI (c.blocks.getD k default).reg), (iI (c.blocks.getD k default).tgt), (iI (c.blocks.getD k default).els)] none false)]
   refine ak (fun (mm : Nat) f H' => ∃ (i : Nat) (F' : Fz), Fz.le mv F' ∧ HS (Base.of H []) F' H' [a7, a8, p8, p9, dn, ci, hV] R ∧ aH f [(0, (.pointer (some ⟨T, 0, none⟩))), (2, (.slice hf kJ.length hR)), (3, (iI (k : Int))), (4, (.pointer (some ⟨h0, 0, none⟩))), (5, (iI (i : Int))), (19, (.slice Z c.blocks.length ad)), (20, (iI (c.blocks.length : Int))), (21, (iI (k : Int))), (22, (.bool (decide ((k : Int) < (c.blocks.length : Int))))), (23, (iI (k : Int))), (25, hS)] ∧ mm = (c.blocks.getD k default).ins.length + 1 - i ∧ (i ≤ (c.blocks.getD k default).ins.length + 1)) _ ⟨0, _, fR, l2, (agC rfl (agC rfl (agC rfl (agC rfl (agC rfl (agC rfl (agC rfl (agC rfl (agC rfl (agC rfl (agC rfl agN))))))))))), rfl, (by first | assumption | omega | (simp at *; omega))⟩ ?_
   rintro od oQ oG ⟨i, lA, g3, c5, kk, rfl, hi⟩ l9
   refine aq _ kk (fun _ => ?_)
   clear kk
   replace ar := ar.mono g3
   replace a1 := a1.mono g3
   refine am 2 rfl ?_
   refine wR 1 [(2, .o (.slice (cA (c3 k) 0) (c.blocks.getD k default).ins.length (cK (c3 k) 0)))] 26 30 [] [(30, (.bool (decide ((i : Int) ≤ ((c.blocks.getD k default).ins.length : Int)))))] (vA (ql 46 0 (HS.hc c5 (i := 6) rfl) rfl rfl) trivial) rfl fun _ => ?_
   refine au 4 5 (v := (decide ((i : Int) ≤ ((c.blocks.getD k default).ins.length : Int)))) rfl rfl rfl rfl (fun hD => ?_) (fun hD => ?_)
   ·
    have j6 := hD
    try simp only [BS] at j6
    have plst : Lst ((J.getD k default).getD i default) (ptS c k i) := px.pt i (show i ≤ (c.blocks.getD k default).ins.length by omega)
    have oY := Lst.len plst hrg.1 (fun r h => jr vF hbn h)
    refine aa ?_
    obtain ⟨kc, kB⟩ := Sv.view (OS.sv a1 c5 (i := 2) rfl)
    have lK := fL (kB k)
    obtain ⟨c4, kC⟩ := Sv.view (SR.sv lK c5)
    have jc := fL (kC i)
    refine wRo 11 0 [(4, .o (.slice a2 J.length a5)), (7, .o (.slice (cA (kc k) 0) (J.getD k default).length (cK (kc k) 0))), (10, .o (.slice (cA (c4 i) 0) ((J.getD k default).getD i default).length (cK (c4 i) 0)))] 33 43 [] [(33, (.pointer (some ⟨T, 0, none⟩))), (43, (.slice (cA (c4 i) 0) ((J.getD k default).getD i default).length (cK (c4 i) 0)))] (vA (ql 90 3 (HS.hc c5 (i := 4) rfl) rfl rfl) (vA (Sv.ix (j := (k : Int)) (OS.sv a1 c5 (i := 2) rfl) (by first | (dsimp only; omega) | omega) (by first | (dsimp only; omega) | omega)) (vA (ql 32 0 (vL (kB k) (by first | (dsimp only; omega) | omega)) rfl rfl) (vA (Sv.ix (j := (i : Int)) (SR.sv lK c5) (by first | (dsimp only; omega) | omega) (by first | (dsimp only; omega) | omega)) (vA (ql 25 0 (vL (kC i) (by first | (dsimp only; omega) | omega)) rfl rfl) trivial))))) rfl fun _ => ?_
    refine aE (R := fun v H' => ∃ (ur : List Int) (b4 : Option Addr) (b5 : Nat) (F' : Fz), Fz.le lA F' ∧ HS (Base.of H []) F' H' [a7, a8, p8, p9, dn, ci, hV] R ∧ SR F' (.slice b4 ur.length b5) ur ∧ v = (.slice b4 ur.length b5) ∧ (ur.length ≤ (((J.getD k default).getD i default)).length)) (aB rfl rfl rfl) rfl rfl ?_ ?_
    ·
     refine aM Tryd.func103 rfl rfl ?_
     refine am 1 rfl ?_
     refine wR 2 [] 4 4 [] [(4, (.slice none 0 0))] trivial rfl fun _ => ?_
     refine wR 3 [] 1 0 [5] [(5, (.slice none 0 0))] trivial rfl fun _ => ?_
     refine wR 2 [] 8 10 [] [(8, (.slice (cA (c4 i) 0) ((J.getD k default).getD i default).length (cK (c4 i) 0))), (9, (iI (((J.getD k default).getD i default).length : Int))), (10, (iI 0))] trivial rfl fun _ => ?_
     have hQ := HS.snoc c5
     have hQ : HS _ _ _ [_, _, _, _, _, _, _, []] _ := hQ
     refine ak (fun (mm : Nat) f H' => ∃ (uo : List Int) (uj : Nat) (bk : Option Addr) (b0 : Nat) (c9 : Fp) (F' : Fz), Fz.le lA F' ∧ HS (Base.of H []) F' H' [a7, a8, p8, p9, dn, ci, hV, c9] R ∧ OS F' (.slice bk uo.length b0) uo c9 ∧ aH f [(0, (.pointer (some ⟨T, 0, none⟩))), (4, (.slice none 0 0)), (5, (.slice bk uo.length b0)), (8, (.slice (cA (c4 i) 0) ((J.getD k default).getD i default).length (cK (c4 i) 0))), (9, (iI (((J.getD k default).getD i default).length : Int))), (10, (iI (uj : Int)))] ∧ mm = (((J.getD k default).getD i default)).length - uj ∧ (uo.length ≤ uj) ∧ (uj ≤ (((J.getD k default).getD i default)).length)) _ ⟨([] : List Int), 0, none, 0, [], _, fR, hQ, (OS.nil : OS _ (.slice none 0 0) ([] : List Int) []), (agC rfl (agC rfl (agC rfl (agC rfl (agC rfl (agC rfl agN)))))), rfl, (by exact Nat.zero_le _), (by first | assumption | omega | (simp at *; omega))⟩ ?_
     rintro oe oR oI ⟨uo, uj, bk, b0, c9, oj, fd, c7, f0, kl, rfl, hu, huj⟩ kE
     refine aq _ kl (fun _ => ?_)
     clear kl
     replace ar := ar.mono fd
     replace jc := jc.mono fd
     refine am 1 rfl ?_
     refine wR 2 [] 11 11 [] [(11, (.bool (decide ((uj : Int) < (((J.getD k default).getD i default).length : Int)))))] trivial rfl fun _ => ?_
     refine au 4 5 (v := (decide ((uj : Int) < (((J.getD k default).getD i default).length : Int)))) rfl rfl rfl rfl (fun hE => ?_) (fun hE => ?_)
     ·
      have j7 := hE
      try simp only [BS] at j7
      have hux : 0 ≤ (((J.getD k default).getD i default)).getD uj 0 ∧ (((J.getD k default).getD i default)).getD uj 0 < c.regs := by (have hm := (plst.mem _).1 (mem_at (l := ((J.getD k default).getD i default)) (q := uj) (by omega)); have hh := jr vF hbn hm.2; omega)
      obtain ⟨nO, kD⟩ := Sv.view (SR.sv jc c7)
      have oT := fI (kD uj)
      refine wR 2 [(1, .o (iI (((J.getD k default).getD i default).getD uj 0)))] 12 13 [7] [(7, (iI (((J.getD k default).getD i default).getD uj 0)))] (vA (Sv.ix (j := (uj : Int)) (SR.sv jc c7) (by first | (dsimp only; omega) | omega) (by first | (dsimp only; omega) | omega)) (vA (ql 3 0 (vI (kD uj) (by first | (dsimp only; omega) | omega)) rfl rfl) trivial)) rfl fun _ => ?_
      obtain ⟨nP, l5⟩ := Sv.view (OS.sv ar c7 (i := 3) rfl)
      refine wR 1 [(3, .o (.slice a9 (List.replicate c.regs.toNat false).length k9)), (6, .o (.bool ((List.replicate c.regs.toNat false).getD (((J.getD k default).getD i default).getD uj 0).toNat false)))] 14 21 [] [(21, (.bool (!((List.replicate c.regs.toNat false).getD (((J.getD k default).getD i default).getD uj 0).toNat false))))] (vA (ql 53 4 (HS.hc c7 (i := 4) rfl) rfl rfl) (vA (Sv.ix (j := (((J.getD k default).getD i default).getD uj 0)) (OS.sv ar c7 (i := 3) rfl) (by first | (dsimp only; omega) | omega) (by first | (dsimp only; omega) | omega)) (vA (ql 4 0 (vB (l5 (((J.getD k default).getD i default).getD uj 0).toNat) (by first | (dsimp only; omega) | omega)) rfl rfl) trivial))) rfl fun _ => ?_
      refine au 0 2 (v := (!((List.replicate c.regs.toNat false).getD (((J.getD k default).getD i default).getD uj 0).toNat false))) rfl rfl rfl rfl (fun hF => ?_) (fun hF => ?_)
      ·
       have j8 := hF
       try simp only [BS] at j8
       refine aa ?_
       refine wRo 2 0 [] 22 23 [] [(22, (.slice bk uo.length b0)), (23, (iI (((J.getD k default).getD i default).getD uj 0)))] trivial rfl fun _ => ?_
       refine aK (bF (α := Int) (ps := [(0, (iI (((J.getD k default).getD i default).getD uj 0)))]) (cells := [(iI (((J.getD k default).getD i default).getD uj 0))]) ([(((J.getD k default).getD i default).getD uj 0)] : List Int) c7 rfl rfl rfl (by kernel_rfl) ⟨[(iI (((J.getD k default).getD i default).getD uj 0))], [], rfl, ⟨rfl, by first | (dsimp only; omega) | omega⟩, rfl⟩ rfl) rfl rfl ?_
       rintro _ oK mK ⟨oM, oZ, rfl, lW, (kv : HS _ _ _ [_, _, _, _, _, _, _, c9, mK] _), _⟩
       refine aK (ca (α := Int) (q := 7) f0 kv rfl rfl rfl (OS.sv lW kv (i := 8) rfl) rfl rfl rfl rfl rfl rfl rfl (by first | omega | (simp only [List.length_append, List.length_cons, List.length_nil]; omega))) rfl rfl ?_
       rintro _ oL lH ⟨lB, lF, rfl, lX, (l4 : HS _ _ _ [_, _, _, _, _, _, _, lH, _] _), _⟩
       refine wa (.slice lB (uo ++ ([(((J.getD k default).getD i default).getD uj 0)] : List Int)).length lF) rfl rfl rfl ?_
       refine aj 2 rfl ?_
       refine wR 1 [] 10 10 [26] [(10, (iI ((uj : Int) + 1)))] (vA (vi (n := (uj : Int) + 1) (by first | (dsimp only; omega) | omega)) trivial) rfl fun _ => ?_
       refine kE _ _ _ ?_ ⟨uo ++ ([(((J.getD k default).getD i default).getD uj 0)] : List Int), uj + 1, lB, lF, lH, _, (fd), (HS.sub l4 (List.sublist_append_left _ _)), lX, (agC rfl (agC rfl (agC rfl (agC rfl (agC rfl (agC rfl agN)))))), rfl, (by first | omega | (simp; omega)), (by first | assumption | omega | (simp at *; omega))⟩
       omega
      have j8 := hF
      try simp only [BS] at j8
      refine wR 1 [] 10 10 [26] [(10, (iI ((uj : Int) + 1)))] (vA (vi (n := (uj : Int) + 1) (by first | (dsimp only; omega) | omega)) trivial) rfl fun _ => ?_
      refine kE _ _ _ ?_ ⟨uo, uj + 1, bk, b0, c9, _, (fd), c7, f0, (agC rfl (agC rfl (agC rfl (agC rfl (agC rfl (agC rfl agN)))))), rfl, (by first | omega | (simp; omega)), (by first | assumption | omega | (simp at *; omega))⟩
      omega
     have j7 := hE
     try simp only [BS] at j7
     refine wR 1 [] 4 4 [27] [(4, (.slice bk uo.length b0))] trivial rfl fun _ => ?_
     obtain ⟨nx, kU, g4, k7, nk⟩ := OS.frz f0 c7 (i := 7) rfl
     have g4 : HS _ _ _ [_, _, _, _, _, _, _, _] _ := g4
     refine az ⟨.inr rfl, _, rfl, uo, bk, b0, _, (fT (fd) kU), (HS.sub g4 (List.sublist_append_left _ _)), k7, rfl, (by omega)⟩
    rintro _ oH ⟨ur, b4, b5, oi, lT, l3, lG, rfl, hur⟩
    refine wa (.slice b4 ur.length b5) rfl rfl rfl ?_
    refine aj 2 rfl ?_
    refine ji ?_
    refine am 2 rfl ?_
    refine wR 1 [] 45 47 [] [(47, (.bool (decide ((5 : Int) < (ur.length : Int)))))] trivial rfl fun _ => ?_
    refine gR 5 (v := (decide ((5 : Int) < (ur.length : Int)))) rfl (by simp; omega) rfl rfl ?_
    refine wR 1 [] 31 32 [5] [(5, (iI ((i : Int) + 1)))] (vA (vi (n := (i : Int) + 1) (by first | (dsimp only; omega) | omega)) trivial) rfl fun _ => ?_
    refine l9 _ _ _ ?_ ⟨i + 1, _, (fT (g3) lT), l3, (agC rfl (agC rfl (agC rfl (agC rfl (agC rfl (agC rfl (agC rfl (agC rfl (agC rfl (agC rfl (agC rfl agN))))))))))), rfl, (by first | assumption | omega | (simp at *; omega))⟩
    omega
   have j6 := hD
   try simp only [BS] at j6
   refine wR 1 [] 21 21 [80] [(21, (iI ((k : Int) + 1)))] (vA (vi (n := (k : Int) + 1) (by first | (dsimp only; omega) | omega)) trivial) rfl fun _ => ?_
   refine l8 _ _ _ ?_ ⟨k + 1, _, (fT (e6) g3), (HS.sub c5 (List.sublist_append_left _ _)), (agC rfl (agC rfl (agC rfl (agC rfl (agC rfl agN))))), rfl, (by first | assumption | omega | (simp at *; omega))⟩
   omega
  have j5 := hC
  try simp only [BS] at j5
  refine aZ ⟨.inl rfl, _, rfl, _, (fT (g2) e6), g8, rfl⟩
 rintro _ oB ⟨ms, e5, hK, rfl⟩
 replace hT := hT.mono e5
 replace an := an.mono e5
 replace ds := ds.mono e5
 replace ar := ar.mono e5
 refine aj 2 rfl ?_
 refine aa ?_
 refine wm (.pointer (some ⟨T, 0, none⟩)) rfl rfl rfl ?_
 refine aE (R := fun v H' => ∃ (lc : List LocT) (ay : Fp) (U : Option Addr) (V : Nat) (F' : Fz), Fz.le ms F' ∧ HS (Base.of H []) F' H' [a7, a8, p8, p9, [(T, .cells [(iI c.params), (iI c.regs), (.slice Z c.blocks.length ad), (.slice a2 J.length a5), (.slice a9 (List.replicate c.regs.toNat false).length k9), (.slice U lc.length V), (.slice none 0 0), (iI 0)] none false)], ay] R ∧ OS F' (.slice U lc.length V) lc ay ∧ v = .tuple #[] ∧ (lc.length = c.regs.toNat)) (aB rfl rfl rfl) rfl rfl ?_ ?_
 ·
  refine aM Tryd.func62 rfl rfl ?_
  refine am 1 rfl ?_
  refine aa ?_
  refine wRo 4 0 [(3, .o dl)] 9 12 [] [(12, dl)] (vA (qn 24 0 3 (HS.hc hK (i := 4) rfl) rfl rfl rfl rfl) trivial) rfl fun _ => ?_
  refine aE (aB rfl rfl rfl) rfl rfl (nb.inter_c ex c (HS.call hK) (by first | (dsimp only; omega) | omega) (by first | (dsimp only; omega) | omega) an hT (by assumption)) ?_
  rintro _ nA ⟨dv, ea, A, lN, g0, e2, rfl, b6, ni, nh⟩
  replace e2 : HS _ _ _ [a7, a8, p8, p9, dn, ci] _ := HS.back hK rfl e2
  replace ds := ds.mono g0
  refine wa (.slice dv A.length ea) rfl rfl rfl ?_
  refine aj 2 rfl ?_
  have hif := (by assumption : ef c = true → InF c A) hv
  have hgl := hif.len
  refine wR 2 [(4, .o (.slice hW (List.replicate c.regs.toNat (default : LocT)).length ja))] 14 20 [] [(19, (iI ((List.replicate c.regs.toNat (default : LocT)).length : Int))), (20, (iI 0))] (vA (ql 37 5 (HS.hc e2 (i := 4) rfl) rfl rfl) trivial) rfl fun _ => ?_
  refine ak (fun (mm : Nat) f H' => ∃ (ll : List LocT) (r : Nat) (av : Fp) (E : Option Addr) (I : Nat) (F' : Fz), Fz.le lN F' ∧ HS (Base.of H []) F' H' [a7, a8, p8, p9, [(T, .cells [(iI c.params), (iI c.regs), (.slice Z c.blocks.length ad), (.slice a2 J.length a5), (.slice a9 (List.replicate c.regs.toNat false).length k9), (.slice E ll.length I), (.slice none 0 0), (iI 0)] none false)], av] R ∧ OS F' (.slice E ll.length I) ll av ∧ aH f [(0, (.pointer (some ⟨T, 0, none⟩))), (2, (.slice dv A.length ea)), (19, (iI ((List.replicate c.regs.toNat (default : LocT)).length : Int))), (20, (iI (r : Int)))] ∧ mm = c.regs.toNat - r ∧ (ll.length = c.regs.toNat) ∧ (LocF ll r) ∧ (r ≤ c.regs.toNat)) _ ⟨List.replicate c.regs.toNat (default : LocT), 0, ci, hW, ja, _, fR, e2, ds, (agC rfl (agC rfl (agC rfl (agC rfl agN)))), rfl, (by simp), (by exact fun j hj => absurd hj (Nat.not_lt_zero _)), (by first | assumption | omega | (simp at *; omega))⟩ ?_
  rintro np nQ nC ⟨ll, r, av, E, I, lO, e0, d2, O, h2, rfl, hll, hlf, hr⟩ lu
  refine aq _ h2 (fun _ => ?_)
  clear h2
  replace ar := (ar.mono g0).mono e0
  replace b6 := b6.mono e0
  refine am 1 rfl ?_
  refine wR 2 [] 21 21 [] [(21, (.bool (decide ((r : Int) < ((List.replicate c.regs.toNat (default : LocT)).length : Int)))))] trivial rfl fun _ => ?_
  refine au 4 3 (v := (decide ((r : Int) < ((List.replicate c.regs.toNat (default : LocT)).length : Int)))) rfl rfl rfl rfl (fun f3 => ?_) (fun f3 => ?_)
  ·
   have hg := f3
   try simp only [BS] at hg
   have hrow : Lst ((A).getD r default) (Sy (intE c) r) := hif.row r (by omega)
   have hrl := Lst.len hrow hrg.1 (fun y h => (sy_lt vF h).1)
   refine wR 3 [] 22 22 [3] [(3, (iI (r : Int)))] trivial rfl fun _ => ?_
   obtain ⟨mL, lq⟩ := Sv.view (OS.sv ar d2 (i := 3) rfl)
   refine wR 1 [(3, .o (.slice a9 (List.replicate c.regs.toNat false).length k9)), (6, .o (.bool ((List.replicate c.regs.toNat false).getD r false)))] 23 29 [] [(29, (.bool ((List.replicate c.regs.toNat false).getD r false)))] (vA (ql 53 4 (HS.hc d2 (i := 4) rfl) rfl rfl) (vA (Sv.ix (j := (r : Int)) (OS.sv ar d2 (i := 3) rfl) (by first | (dsimp only; omega) | omega) (by first | (dsimp only; omega) | omega)) (vA (ql 4 0 (vB (lq r) (by first | (dsimp only; omega) | omega)) rfl rfl) trivial))) rfl fun _ => ?_
   refine gR 2 (v := ((List.replicate c.regs.toNat false).getD r false)) rfl (by exact rep_at) rfl rfl ?_
   refine aa ?_
   refine aK (rs_arr (List.replicate 5 (0 : Int)) d2 rfl (RL.replicate (α := Int) (z := [(iI 0)]) (And.intro rfl (by decide)) 5) rfl) rfl rfl ?_
   rintro _ nD kK ⟨ax, rfl, h9, (lj : HS _ _ _ [_, _, _, _, [(T, .cells [(iI c.params), (iI c.regs), (.slice Z c.blocks.length ad), (.slice a2 J.length a5), (.slice a9 (List.replicate c.regs.toNat false).length k9), (.slice E ll.length I), (.slice none 0 0), (iI 0)] none false)], av, kK] _), _, kW⟩
   have nj := OS.len' h9
   refine aj 3 rfl ?_
   refine wR 2 [] 30 30 [] [(30, (iI 0))] trivial rfl fun _ => ?_
   let kQ : Fp := [(T, .cells [(iI c.params), (iI c.regs), (.slice Z c.blocks.length ad), (.slice a2 J.length a5), (.slice a9 (List.replicate c.regs.toNat false).length k9), (.slice E ll.length I), (.slice none 0 0), (iI 0)] none false)]
   refine ak (fun (mm : Nat) f H' => ∃ (o1 : List Int) (k1 : Nat) (b9 : Fp) (F' : Fz), Fz.le lO F' ∧ HS (Base.of H []) F' H' [a7, a8, p8, p9, kQ, av, b9] R ∧ OS F' (.slice (some ⟨ax, 0, none⟩) 5 5) o1 b9 ∧ (∃ cs, b9 = [(ax, .cells cs none false)]) ∧ aH f [(0, (.pointer (some ⟨T, 0, none⟩))), (2, (.slice dv A.length ea)), (3, (iI (r : Int))), (4, (.pointer (some ⟨ax, 0, none⟩))), (19, (iI ((List.replicate c.regs.toNat (default : LocT)).length : Int))), (20, (iI (r : Int))), (21, (.bool (decide ((r : Int) < ((List.replicate c.regs.toNat (default : LocT)).length : Int))))), (29, (.bool ((List.replicate c.regs.toNat false).getD r false))), (30, (iI (k1 : Int)))] ∧ mm = 5 - k1 ∧ (o1.length = 5) ∧ (∀ j, j < k1 → o1.getD j 0 = -1) ∧ (k1 ≤ 5)) _ ⟨List.replicate 5 (0 : Int), 0, kK, _, fR, lj, h9, kW, (agC rfl (agC rfl (agC rfl (agC rfl (agC rfl (agC rfl (agC rfl (agC rfl (agC rfl agN))))))))), rfl, (by rfl), (by exact fun j hj => absurd hj (Nat.not_lt_zero _)), (by first | assumption | omega | (simp at *; omega))⟩ ?_
   rintro nq nR nE ⟨o1, k1, b9, lP, d1, e3, ez, f1, h3, rfl, km, lD, oV⟩ lv
   refine aq _ h3 (fun _ => ?_)
   clear h3
   replace ar := ar.mono d1
   replace b6 := b6.mono d1
   replace O := O.mono d1
   have mn := OS.len' ez
   refine am 1 rfl ?_
   refine wR 2 [] 31 31 [] [(31, (.bool (decide ((k1 : Int) < 5))))] trivial rfl fun _ => ?_
   refine au 4 6 (v := (decide ((k1 : Int) < 5))) rfl rfl rfl rfl (fun f4 => ?_) (fun f4 => ?_)
   ·
    have hl := f4
    try simp only [BS] at hl
    refine wR 1 [] 32 32 [5] [(5, (iI (k1 : Int)))] trivial rfl fun _ => ?_
    refine aa ?_
    refine wm (iI (k1 : Int)) rfl rfl rfl ?_
    refine aW (v := (.pointer (some ⟨sB (.slice (some ⟨ax, 0, none⟩) 5 5), sO (.slice (some ⟨ax, 0, none⟩) 5 5) + k1 * Rp.sz Int, none⟩))) (jP (α := Int) (j := (k1 : Int)) rfl rfl rfl rfl (by first | (dsimp only; omega) | omega) (by first | (dsimp only; omega) | omega)) rfl rfl ?_
    refine aT (rs_stA (α := Int) (j := k1) (off := 0) (q := 6) (-1) ez e3 rfl rfl rfl rfl rfl rfl rfl rfl (aY (x := (0 : Int)) (by first | (dsimp only; omega) | omega)) rfl (by rintro cs ⟨rfl, _⟩; exact ⟨Nat.le_of_ble_eq_true rfl, rfl, by first | (dsimp only; omega) | omega⟩) f1) rfl ?_
    rintro _ nF kL ⟨ib, (lm : HS _ _ _ [_, _, _, _, _, _, kL] _), _, kf⟩
    have mD := OS.len' ib
    refine eO ?_
    refine am 2 rfl ?_
    refine wR 1 [] 30 30 [35] [(30, (iI ((k1 : Int) + 1)))] (vA (vi (n := (k1 : Int) + 1) (by first | (dsimp only; omega) | omega)) trivial) rfl fun _ => ?_
    refine lv _ _ _ ?_ ⟨o1.set k1 (-1), k1 + 1, kL, _, (d1), lm, ib, kf, (agC rfl (agC rfl (agC rfl (agC rfl (agC rfl (agC rfl (agC rfl (agC rfl (agC rfl agN))))))))), rfl, (by rw [List.length_set]; exact km), (by exact om_set km (by omega) lD), (by first | assumption | omega | (simp at *; omega))⟩
    omega
   have hl := f4
   try simp only [BS] at hl
   obtain ⟨b2, i1⟩ := Sv.view (SR.sv b6 e3)
   have he := fL (i1 r)
   refine wR 2 [(3, .o (.slice (cA (b2 r) 0) (A.getD r default).length (cK (b2 r) 0)))] 36 41 [] [(39, (.slice (cA (b2 r) 0) (A.getD r default).length (cK (b2 r) 0))), (40, (iI ((A.getD r default).length : Int))), (41, (iI 0))] (vA (Sv.ix (j := (r : Int)) (SR.sv b6 e3) (by first | (dsimp only; omega) | omega) (by first | (dsimp only; omega) | omega)) (vA (ql 25 0 (vL (i1 r) (by first | (dsimp only; omega) | omega)) rfl rfl) trivial)) rfl fun _ => ?_
   refine ak (fun (mm : Nat) f H' => ∃ (o2 : List Int) (p : Nat) (bb : Fp) (F' : Fz), Fz.le lP F' ∧ HS (Base.of H []) F' H' [a7, a8, p8, p9, kQ, av, bb] R ∧ OS F' (.slice (some ⟨ax, 0, none⟩) 5 5) o2 bb ∧ (∃ cs, bb = [(ax, .cells cs none false)]) ∧ aH f [(0, (.pointer (some ⟨T, 0, none⟩))), (2, (.slice dv A.length ea)), (3, (iI (r : Int))), (4, (.pointer (some ⟨ax, 0, none⟩))), (19, (iI ((List.replicate c.regs.toNat (default : LocT)).length : Int))), (20, (iI (r : Int))), (21, (.bool (decide ((r : Int) < ((List.replicate c.regs.toNat (default : LocT)).length : Int))))), (29, (.bool ((List.replicate c.regs.toNat false).getD r false))), (30, (iI (k1 : Int))), (31, (.bool (decide ((k1 : Int) < 5)))), (39, (.slice (cA (b2 r) 0) (A.getD r default).length (cK (b2 r) 0))), (40, (iI ((A.getD r default).length : Int))), (41, (iI (p : Int)))] ∧ mm = ((A).getD r default).length - p ∧ (OwF ll r o2) ∧ (p ≤ ((A).getD r default).length)) _ ⟨o1, 0, b9, _, fR, e3, ez, f1, (agC rfl (agC rfl (agC rfl (agC rfl (agC rfl (agC rfl (agC rfl (agC rfl (agC rfl (agC rfl (agC rfl (agC rfl (agC rfl agN))))))))))))), rfl, (by exact ow_zero km (by omega) lD), (by first | assumption | omega | (simp at *; omega))⟩ ?_
   rintro nr nS em ⟨o2, p, bb, lQ, dk, ag, b7, f2, h4, rfl, il, hp⟩ i3
   refine aq _ h4 (fun _ => ?_)
   clear h4
   replace ar := ar.mono dk
   replace O := O.mono dk
   replace he := he.mono dk
   have mp := OS.len' b7
   have n7 := il.1
   refine am 1 rfl ?_
   refine wR 2 [] 42 42 [] [(42, (.bool (decide ((p : Int) < ((A.getD r default).length : Int)))))] trivial rfl fun _ => ?_
   refine au 4 5 (v := (decide ((p : Int) < ((A.getD r default).length : Int)))) rfl rfl rfl rfl (fun f5 => ?_) (fun f5 => ?_)
   ·
    have hn := f5
    try simp only [BS] at hn
    have hxn : 0 ≤ ((A).getD r default).getD p 0 ∧ ((A).getD r default).getD p 0 < c.regs := by (have hm := (hrow.mem _).1 (mem_at (l := ((A).getD r default)) (q := p) (by omega)); have hh := (sy_lt vF hm.2).1; omega)
    have lU := hlf (((A).getD r default).getD p 0).toNat
    obtain ⟨mM, i2⟩ := Sv.view (SR.sv he ag)
    have nV := fI (i2 p)
    refine wR 2 [(1, .o (iI ((A.getD r default).getD p 0)))] 43 44 [7] [(7, (iI ((A.getD r default).getD p 0)))] (vA (Sv.ix (j := (p : Int)) (SR.sv he ag) (by first | (dsimp only; omega) | omega) (by first | (dsimp only; omega) | omega)) (vA (ql 3 0 (vI (i2 p) (by first | (dsimp only; omega) | omega)) rfl rfl) trivial)) rfl fun _ => ?_
    refine wk_rcut 45 71 [] [(71, (.bool (((decide (((A.getD r default).getD p 0) < (r : Int))) && (!((List.replicate c.regs.toNat false).getD ((A.getD r default).getD p 0).toNat false))) && (decide ((o2.getD (ll.getD ((A.getD r default).getD p 0).toNat default).idx.toNat 0) < 0)))))] (fun H' => H' = em) ?_ ?_
    ·
     refine aa ?_
     refine wm (iI ((A.getD r default).getD p 0)) rfl rfl rfl ?_
     refine wm (iI (r : Int)) rfl rfl rfl ?_
     refine aW (v := (.bool (decide (((A.getD r default).getD p 0) < (r : Int))))) (ap_cmp rfl rfl rfl rfl) rfl rfl ?_
     refine wm (.bool (decide (((A.getD r default).getD p 0) < (r : Int)))) rfl rfl rfl ?_
     refine wo_gsT (v := (decide (((A.getD r default).getD p 0) < (r : Int)))) rfl rfl (fun al => ?_) (fun al => ?_)
     ·
      have g9 := al
      try simp only [BS] at g9
      refine wm (.pointer (some ⟨T, 0, none⟩)) rfl rfl rfl ?_
      refine dp rfl al ?_
      refine aW (v := (.pointer (some ⟨T, 0, none⟩))) (ap_nilP rfl) rfl rfl ?_
      refine dp rfl al ?_
      refine aW (v := (.pointer (some ⟨T, 4, none⟩))) (fF rfl rfl) rfl rfl ?_
      refine dp rfl al ?_
      refine aW (v := (.slice a9 (List.replicate c.regs.toNat false).length k9)) (b8 (i := 4) rfl rfl (HS.hc ag (i := 4) rfl) rfl rfl) rfl rfl ?_
      refine dp rfl al ?_
      refine wm (iI ((A.getD r default).getD p 0)) rfl rfl rfl ?_
      refine dp rfl al ?_
      refine aW (v := (.pointer (some ⟨sB (.slice a9 (List.replicate c.regs.toNat false).length k9), sO (.slice a9 (List.replicate c.regs.toNat false).length k9) + ((A.getD r default).getD p 0).toNat * Rp.sz Bool, none⟩))) (cz (α := Bool) (j := ((A.getD r default).getD p 0)) rfl rfl rfl rfl (OS.sv ar ag (i := 3) rfl) (by first | (dsimp only; omega) | omega) (by first | (dsimp only; omega) | omega)) rfl rfl ?_
      refine dp rfl al ?_
      obtain ⟨mO, k8, kX⟩ := Sv.at (OS.sv ar ag (i := 3) rfl) (aY (x := false) (show ((A.getD r default).getD p 0).toNat < (List.replicate c.regs.toNat false).length from by first | (dsimp only; omega) | omega))
      obtain rfl := k8
      refine aW (v := (.bool ((List.replicate c.regs.toNat false).getD ((A.getD r default).getD p 0).toNat false))) (b8 (i := 0) rfl rfl kX rfl rfl) rfl rfl ?_
      refine dp rfl al ?_
      refine aW (v := (.bool (!((List.replicate c.regs.toNat false).getD ((A.getD r default).getD p 0).toNat false)))) (ap_not rfl) rfl rfl ?_
      refine aW (v := (.bool (!((List.replicate c.regs.toNat false).getD ((A.getD r default).getD p 0).toNat false)))) (jO rfl al rfl) rfl rfl ?_
      refine wm (.bool (!((List.replicate c.regs.toNat false).getD ((A.getD r default).getD p 0).toNat false))) rfl rfl rfl ?_
      refine wo_gsT (v := (!((List.replicate c.regs.toNat false).getD ((A.getD r default).getD p 0).toNat false))) rfl rfl (fun N => ?_) (fun N => ?_)
      ·
       have ha := N
       try simp only [BS] at ha
       refine wm (.pointer (some ⟨T, 0, none⟩)) rfl rfl rfl ?_
       refine dp rfl N ?_
       refine aW (v := (.pointer (some ⟨T, 0, none⟩))) (ap_nilP rfl) rfl rfl ?_
       refine dp rfl N ?_
       refine aW (v := (.pointer (some ⟨T, 5, none⟩))) (fF rfl rfl) rfl rfl ?_
       refine dp rfl N ?_
       refine aW (v := (.pointer (some ⟨T, 5, none⟩))) (fF rfl rfl) rfl rfl ?_
       refine dp rfl N ?_
       refine aW (v := (.slice E ll.length I)) (b8 (i := 5) rfl rfl (HS.hc ag (i := 4) rfl) rfl rfl) rfl rfl ?_
       refine dp rfl N ?_
       refine wm (iI ((A.getD r default).getD p 0)) rfl rfl rfl ?_
       refine dp rfl N ?_
       refine aW (v := (.pointer (some ⟨sB (.slice E ll.length I), sO (.slice E ll.length I) + ((A.getD r default).getD p 0).toNat * Rp.sz LocT, none⟩))) (cz (α := LocT) (j := ((A.getD r default).getD p 0)) rfl rfl rfl rfl (OS.sv O ag (i := 5) rfl) (by first | (dsimp only; omega) | omega) (by first | (dsimp only; omega) | omega)) rfl rfl ?_
       refine dp rfl N ?_
       refine aW (v := (.pointer (some ⟨sB (.slice E ll.length I), sO (.slice E ll.length I) + ((A.getD r default).getD p 0).toNat * Rp.sz LocT + 1, none⟩))) (fF rfl rfl) rfl rfl ?_
       refine dp rfl N ?_
       obtain ⟨mP, la, kY⟩ := Sv.at (OS.sv O ag (i := 5) rfl) (aY (x := default) (show ((A.getD r default).getD p 0).toNat < ll.length from by first | (dsimp only; omega) | omega))
       obtain ⟨rfl, mz⟩ := la
       refine aW (v := (iI (ll.getD ((A.getD r default).getD p 0).toNat default).idx)) (b8 (i := 1) rfl rfl kY rfl rfl) rfl rfl ?_
       refine dp rfl N ?_
       refine aW (v := (.pointer (some ⟨sB (.slice (some ⟨ax, 0, none⟩) 5 5), sO (.slice (some ⟨ax, 0, none⟩) 5 5) + (ll.getD ((A.getD r default).getD p 0).toNat default).idx.toNat * Rp.sz Int, none⟩))) (jP (α := Int) (j := (ll.getD ((A.getD r default).getD p 0).toNat default).idx) rfl rfl rfl rfl (by first | (dsimp only; omega) | omega) (by first | (dsimp only; omega) | omega)) rfl rfl ?_
       refine dp rfl N ?_
       obtain ⟨mQ, lb, kZ⟩ := Sv.at (OS.sv b7 ag (i := 6) rfl) (aY (x := (0 : Int)) (show (ll.getD ((A.getD r default).getD p 0).toNat default).idx.toNat < o2.length from by first | (dsimp only; omega) | omega))
       obtain ⟨rfl, mA⟩ := lb
       refine aW (v := (iI (o2.getD (ll.getD ((A.getD r default).getD p 0).toNat default).idx.toNat 0))) (b8 (i := 0) rfl rfl kZ rfl rfl) rfl rfl ?_
       refine dp rfl N ?_
       refine aW (v := (.bool (decide ((o2.getD (ll.getD ((A.getD r default).getD p 0).toNat default).idx.toNat 0) < 0)))) (ap_cmp rfl rfl rfl rfl) rfl rfl ?_
       refine aW (v := (.bool (decide ((o2.getD (ll.getD ((A.getD r default).getD p 0).toNat default).idx.toNat 0) < 0)))) (jO rfl N rfl) rfl rfl ?_
       refine eO ?_
       exact aZ ⟨rfl, rfl, (Lu rfl (Lu rfl (Lu rfl (Lu rfl (Lu rfl (Lu rfl (Lu rfl (Lu rfl (Lu rfl (Lu rfl (Lu rfl (Lu rfl (Lu rfl (Lu rfl (Lu rfl (Lu rfl (Lu rfl (Lu rfl (Lu rfl (Lu rfl (Lu rfl (Lu rfl (Lu rfl (Lu rfl (Lu rfl (Lu rfl (Lu rfl Lr))))))))))))))))))))))))))), (agC (congrArg Value.bool (show (decide ((o2.getD (ll.getD ((A.getD r default).getD p 0).toNat default).idx.toNat 0) < 0)) = (((decide (((A.getD r default).getD p 0) < (r : Int))) && (!((List.replicate c.regs.toNat false).getD ((A.getD r default).getD p 0).toNat false))) && (decide ((o2.getD (ll.getD ((A.getD r default).getD p 0).toNat default).idx.toNat 0) < 0))) by first | rfl | simp only [↓al, ↓N, BT] | grind)) agN)⟩
      have ha := N
      try simp only [BS] at ha
      refine bj rfl N rfl ?_
      refine bj rfl N rfl ?_
      refine bj rfl N rfl ?_
      refine bj rfl N rfl ?_
      refine bj rfl N rfl ?_
      refine bj rfl N rfl ?_
      refine bj rfl N rfl ?_
      refine bj rfl N rfl ?_
      refine bj rfl N rfl ?_
      refine bj rfl N rfl ?_
      refine bj rfl N rfl ?_
      refine aW (v := (.bool false)) (gO rfl N rfl) rfl rfl ?_
      refine eO ?_
      exact aZ ⟨rfl, rfl, (Lu rfl (Lu rfl (Lu rfl (Lu rfl (Lu rfl (Lu rfl (Lu rfl (Lu rfl (Lu rfl (Lu rfl (Lu rfl (Lu rfl (Lu rfl (Lu rfl (Lu rfl (Lu rfl (Lu rfl (Lu rfl (Lu rfl (Lu rfl (Lu rfl (Lu rfl (Lu rfl (Lu rfl (Lu rfl (Lu rfl (Lu rfl Lr))))))))))))))))))))))))))), (agC (congrArg Value.bool (show false = (((decide (((A.getD r default).getD p 0) < (r : Int))) && (!((List.replicate c.regs.toNat false).getD ((A.getD r default).getD p 0).toNat false))) && (decide ((o2.getD (ll.getD ((A.getD r default).getD p 0).toNat default).idx.toNat 0) < 0))) by first | rfl | simp only [↓al, ↓N, BT] | grind)) agN)⟩
     have g9 := al
     try simp only [BS] at g9
     refine bj rfl al rfl ?_
     refine bj rfl al rfl ?_
     refine bj rfl al rfl ?_
     refine bj rfl al rfl ?_
     refine bj rfl al rfl ?_
     refine bj rfl al rfl ?_
     refine bj rfl al rfl ?_
     refine aW (v := (.bool false)) (gO rfl al rfl) rfl rfl ?_
     refine wm (.bool false) rfl rfl rfl ?_
     refine bj rfl rfl rfl ?_
     refine bj rfl rfl rfl ?_
     refine bj rfl rfl rfl ?_
     refine bj rfl rfl rfl ?_
     refine bj rfl rfl rfl ?_
     refine bj rfl rfl rfl ?_
     refine bj rfl rfl rfl ?_
     refine bj rfl rfl rfl ?_
     refine bj rfl rfl rfl ?_
     refine bj rfl rfl rfl ?_
     refine bj rfl rfl rfl ?_
     refine bj rfl rfl rfl ?_
     refine aW (v := (.bool false)) (gO rfl rfl rfl) rfl rfl ?_
     refine eO ?_
     exact aZ ⟨rfl, rfl, (Lu rfl (Lu rfl (Lu rfl (Lu rfl (Lu rfl (Lu rfl (Lu rfl (Lu rfl (Lu rfl (Lu rfl (Lu rfl (Lu rfl (Lu rfl (Lu rfl (Lu rfl (Lu rfl (Lu rfl (Lu rfl (Lu rfl (Lu rfl (Lu rfl (Lu rfl (Lu rfl (Lu rfl (Lu rfl (Lu rfl (Lu rfl Lr))))))))))))))))))))))))))), (agC (congrArg Value.bool (show false = (((decide (((A.getD r default).getD p 0) < (r : Int))) && (!((List.replicate c.regs.toNat false).getD ((A.getD r default).getD p 0).toNat false))) && (decide ((o2.getD (ll.getD ((A.getD r default).getD p 0).toNat default).idx.toNat 0) < 0))) by first | rfl | simp only [↓al, BT] | grind)) agN)⟩
    skip
    rintro nW em rfl
    refine am 1 rfl ?_
    refine au 0 2 (v := (((decide (((A.getD r default).getD p 0) < (r : Int))) && (!((List.replicate c.regs.toNat false).getD ((A.getD r default).getD p 0).toNat false))) && (decide ((o2.getD (ll.getD ((A.getD r default).getD p 0).toNat default).idx.toNat 0) < 0)))) rfl rfl rfl rfl (fun f6 => ?_) (fun f6 => ?_)
    ·
     have hq := f6
     try simp only [BS] at hq
     have hid := (lU (by omega)).2
     refine aa ?_
     refine wm (.pointer (some ⟨T, 0, none⟩)) rfl rfl rfl ?_
     refine aW (v := (.pointer (some ⟨T, 0, none⟩))) (ap_nilP rfl) rfl rfl ?_
     refine aW (v := (.pointer (some ⟨T, 5, none⟩))) (fF rfl rfl) rfl rfl ?_
     refine aW (v := (.pointer (some ⟨T, 5, none⟩))) (fF rfl rfl) rfl rfl ?_
     refine aW (v := (.slice E ll.length I)) (b8 (i := 5) rfl rfl (HS.hc ag (i := 4) rfl) rfl rfl) rfl rfl ?_
     refine wm (iI ((A.getD r default).getD p 0)) rfl rfl rfl ?_
     refine aW (v := (.pointer (some ⟨sB (.slice E ll.length I), sO (.slice E ll.length I) + ((A.getD r default).getD p 0).toNat * Rp.sz LocT, none⟩))) (cz (α := LocT) (j := ((A.getD r default).getD p 0)) rfl rfl rfl rfl (OS.sv O ag (i := 5) rfl) (by first | (dsimp only; omega) | omega) (by first | (dsimp only; omega) | omega)) rfl rfl ?_
     refine aW (v := (.pointer (some ⟨sB (.slice E ll.length I), sO (.slice E ll.length I) + ((A.getD r default).getD p 0).toNat * Rp.sz LocT + 1, none⟩))) (fF rfl rfl) rfl rfl ?_
     obtain ⟨mR, ld, k0⟩ := Sv.at (OS.sv O ag (i := 5) rfl) (aY (x := default) (show ((A.getD r default).getD p 0).toNat < ll.length from by first | (dsimp only; omega) | omega))
     obtain ⟨rfl, mB⟩ := ld
     refine aW (v := (iI (ll.getD ((A.getD r default).getD p 0).toNat default).idx)) (b8 (i := 1) rfl rfl k0 rfl rfl) rfl rfl ?_
     refine wm (iI ((A.getD r default).getD p 0)) rfl rfl rfl ?_
     refine aW (v := (.pointer (some ⟨sB (.slice (some ⟨ax, 0, none⟩) 5 5), sO (.slice (some ⟨ax, 0, none⟩) 5 5) + (ll.getD ((A.getD r default).getD p 0).toNat default).idx.toNat * Rp.sz Int, none⟩))) (jP (α := Int) (j := (ll.getD ((A.getD r default).getD p 0).toNat default).idx) rfl rfl rfl rfl (by first | (dsimp only; omega) | omega) (by first | (dsimp only; omega) | omega)) rfl rfl ?_
     refine aT (rs_stA (α := Int) (j := (ll.getD ((A.getD r default).getD p 0).toNat default).idx.toNat) (off := 0) (q := 6) ((A.getD r default).getD p 0) b7 ag rfl rfl rfl rfl rfl rfl rfl rfl (aY (x := (0 : Int)) (by first | (dsimp only; omega) | omega)) rfl (by rintro cs ⟨rfl, _⟩; exact ⟨Nat.le_of_ble_eq_true rfl, rfl, by first | (dsimp only; omega) | omega⟩) f2) rfl ?_
     rintro _ nH kM ⟨ih, (ln : HS _ _ _ [_, _, _, _, _, _, kM] _), _, kg⟩
     have mE := OS.len' ih
     refine eO ?_
     refine am 2 rfl ?_
     refine wR 1 [] 41 41 [83] [(41, (iI ((p : Int) + 1)))] (vA (vi (n := (p : Int) + 1) (by first | (dsimp only; omega) | omega)) trivial) rfl fun _ => ?_
     refine i3 _ _ _ ?_ ⟨o2.set (ll.getD ((A.getD r default).getD p 0).toNat default).idx.toNat ((A.getD r default).getD p 0), p + 1, kM, _, (dk), ln, ih, kg, (agC rfl (agC rfl (agC rfl (agC rfl (agC rfl (agC rfl (agC rfl (agC rfl (agC rfl (agC rfl (agC rfl (agC rfl (agC rfl agN))))))))))))), rfl, (by first | assumption | exact ow_set il (by omega) hid), (by first | assumption | omega | (simp at *; omega))⟩
     omega
    have hq := f6
    try simp only [BS] at hq
    refine wR 1 [] 41 41 [83] [(41, (iI ((p : Int) + 1)))] (vA (vi (n := (p : Int) + 1) (by first | (dsimp only; omega) | omega)) trivial) rfl fun _ => ?_
    refine i3 _ _ _ ?_ ⟨o2, p + 1, bb, _, (dk), ag, b7, f2, (agC rfl (agC rfl (agC rfl (agC rfl (agC rfl (agC rfl (agC rfl (agC rfl (agC rfl (agC rfl (agC rfl (agC rfl (agC rfl agN))))))))))))), rfl, (by first | assumption | exact ow_set il (by omega) hid), (by first | assumption | omega | (simp at *; omega))⟩
    omega
   have hn := f5
   try simp only [BS] at hn
   refine wR 3 [] 1 0 [8] [(8, (iI 0))] trivial rfl fun _ => ?_
   refine ak (fun (mm : Nat) f H' => ∃ (k3 : Nat), H' = em ∧ aH f [(0, (.pointer (some ⟨T, 0, none⟩))), (2, (.slice dv A.length ea)), (3, (iI (r : Int))), (4, (.pointer (some ⟨ax, 0, none⟩))), (8, (iI (k3 : Int))), (19, (iI ((List.replicate c.regs.toNat (default : LocT)).length : Int))), (20, (iI (r : Int))), (21, (.bool (decide ((r : Int) < ((List.replicate c.regs.toNat (default : LocT)).length : Int))))), (29, (.bool ((List.replicate c.regs.toNat false).getD r false))), (30, (iI (k1 : Int))), (31, (.bool (decide ((k1 : Int) < 5)))), (39, (.slice (cA (b2 r) 0) (A.getD r default).length (cK (b2 r) 0))), (40, (iI ((A.getD r default).length : Int))), (41, (iI (p : Int))), (42, (.bool (decide ((p : Int) < ((A.getD r default).length : Int)))))] ∧ mm = 5 - k3 ∧ (k3 ≤ 5) ∧ (∀ j, j < k3 → 0 ≤ o2.getD j 0)) _ ⟨0, rfl, (agC rfl (agC rfl (agC rfl (agC rfl (agC rfl (agC rfl (agC rfl (agC rfl (agC rfl (agC rfl (agC rfl (agC rfl (agC rfl (agC rfl (agC rfl agN))))))))))))))), rfl, (by first | assumption | omega | (simp at *; omega)), (by exact fun j hj => absurd hj (Nat.not_lt_zero _))⟩ ?_
   rintro nt nT em ⟨k3, rfl, h6, rfl, oW, lE⟩ lw
   refine aq _ h6 (fun _ => ?_)
   clear h6
   refine am 2 rfl ?_
   refine wk_rcut 84 91 [] [(91, (.bool ((decide ((k3 : Int) < 5)) && (decide ((0 : Int) ≤ (o2.getD k3 0))))))] (fun H' => H' = em) ?_ ?_
   ·
    refine aa ?_
    refine wm (iI (k3 : Int)) rfl rfl rfl ?_
    refine aW (v := (.bool (decide ((k3 : Int) < 5)))) (ap_cmp rfl rfl rfl rfl) rfl rfl ?_
    refine wm (.bool (decide ((k3 : Int) < 5))) rfl rfl rfl ?_
    refine wo_gsT (v := (decide ((k3 : Int) < 5))) rfl rfl (fun a0 => ?_) (fun a0 => ?_)
    ·
     have hb := a0
     try simp only [BS] at hb
     refine wm (iI (k3 : Int)) rfl rfl rfl ?_
     refine dp rfl a0 ?_
     refine aW (v := (.pointer (some ⟨sB (.slice (some ⟨ax, 0, none⟩) 5 5), sO (.slice (some ⟨ax, 0, none⟩) 5 5) + k3 * Rp.sz Int, none⟩))) (jP (α := Int) (j := (k3 : Int)) rfl rfl rfl rfl (by first | (dsimp only; omega) | omega) (by first | (dsimp only; omega) | omega)) rfl rfl ?_
     refine dp rfl a0 ?_
     obtain ⟨mS, lf, k4⟩ := Sv.at (OS.sv b7 ag (i := 6) rfl) (aY (x := (0 : Int)) (show k3 < o2.length from by first | (dsimp only; omega) | omega))
     obtain ⟨rfl, mC⟩ := lf
     refine aW (v := (iI (o2.getD k3 0))) (b8 (i := 0) rfl rfl k4 rfl rfl) rfl rfl ?_
     refine dp rfl a0 ?_
     refine aW (v := (.bool (decide ((0 : Int) ≤ (o2.getD k3 0))))) (ap_cmp rfl rfl rfl rfl) rfl rfl ?_
     refine aW (v := (.bool (decide ((0 : Int) ≤ (o2.getD k3 0))))) (jO rfl a0 rfl) rfl rfl ?_
     refine eO ?_
     exact aZ ⟨rfl, rfl, (Lu rfl (Lu rfl (Lu rfl (Lu rfl (Lu rfl (Lu rfl (Lu rfl (Lu rfl Lr)))))))), (agC (congrArg Value.bool (show (decide ((0 : Int) ≤ (o2.getD k3 0))) = ((decide ((k3 : Int) < 5)) && (decide ((0 : Int) ≤ (o2.getD k3 0)))) by first | rfl | simp only [↓a0, BT] | grind)) agN)⟩
    have hb := a0
    try simp only [BS] at hb
    refine bj rfl a0 rfl ?_
    refine bj rfl a0 rfl ?_
    refine bj rfl a0 rfl ?_
    refine aW (v := (.bool false)) (gO rfl a0 rfl) rfl rfl ?_
    refine eO ?_
    exact aZ ⟨rfl, rfl, (Lu rfl (Lu rfl (Lu rfl (Lu rfl (Lu rfl (Lu rfl (Lu rfl (Lu rfl Lr)))))))), (agC (congrArg Value.bool (show false = ((decide ((k3 : Int) < 5)) && (decide ((0 : Int) ≤ (o2.getD k3 0)))) by first | rfl | simp only [↓a0, BT] | grind)) agN)⟩
   skip
   rintro nX em rfl
   refine am 1 rfl ?_
   refine au 2 6 (v := ((decide ((k3 : Int) < 5)) && (decide ((0 : Int) ≤ (o2.getD k3 0))))) rfl rfl rfl rfl (fun f8 => ?_) (fun f8 => ?_)
   ·
    have ht := f8
    try simp only [BS] at ht
    refine wR 2 [] 92 93 [8] [(8, (iI ((k3 : Int) + 1)))] (vA (vi (n := (k3 : Int) + 1) (by first | (dsimp only; omega) | omega)) trivial) rfl fun _ => ?_
    refine lw _ _ _ ?_ ⟨k3 + 1, rfl, (agC rfl (agC rfl (agC rfl (agC rfl (agC rfl (agC rfl (agC rfl (agC rfl (agC rfl (agC rfl (agC rfl (agC rfl (agC rfl (agC rfl (agC rfl agN))))))))))))))), rfl, (by first | assumption | omega | (simp at *; omega)), (by exact nn_step lE (by omega))⟩
    omega
   have ht := f8
   try simp only [BS] at ht
   have oX : k3 < 5 := by (rcases Nat.lt_or_ge k3 5 with h | h; exact h; exact (ow_free il (by omega) (fun j hj => lE j (by omega))).elim)
   refine wR 1 [] 94 95 [] [(95, (.bool (decide ((k3 : Int) < 5))))] trivial rfl fun _ => ?_
   refine bC 1 (v := (decide ((k3 : Int) < 5))) rfl (by simp; omega) rfl rfl ?_
   refine aa ?_
   refine wRo 9 0 [(4, .o (.slice E ll.length I))] 96 104 [] [(103, (.agg ⟨[(.bool false), (iI (k3 : Int))]⟩)), (104, (.pointer (some ⟨sB (.slice E ll.length I), sO (.slice E ll.length I) + r * Rp.sz LocT, none⟩)))] (vA (ql 37 5 (HS.hc ag (i := 4) rfl) rfl rfl) (vA (Sv.ix (j := (r : Int)) (OS.sv O ag (i := 5) rfl) (by first | (dsimp only; omega) | omega) (by first | (dsimp only; omega) | omega)) trivial)) rfl fun _ => ?_
   refine aT (ei (α := LocT) (j := r) (off := 0) (q := 5) (⟨false, (k3 : Int)⟩ : LocT) O ag rfl rfl rfl rfl rfl rfl rfl rfl (aY (x := default) (by first | (dsimp only; omega) | omega)) rfl (st_whole (F := lQ) (Y := (⟨false, (k3 : Int)⟩ : LocT)) (cl := [(.bool false), (iI (k3 : Int))]) ⟨rfl, by first | (dsimp only; omega) | omega⟩)) rfl ?_
   rintro _ nI kN ⟨ik, (lp : HS _ _ _ [_, _, _, _, _, kN, bb] _), _⟩
   have mF := OS.len' ik
   refine aj 4 rfl ?_
   refine wR 1 [] 20 20 [112] [(20, (iI ((r : Int) + 1)))] (vA (vi (n := (r : Int) + 1) (by first | (dsimp only; omega) | omega)) trivial) rfl fun _ => ?_
   refine lu _ _ _ ?_ ⟨ll.set r (⟨false, (k3 : Int)⟩ : LocT), r + 1, kN, E, I, _, (fT (fT (e0) d1) dk), (by simpa only [List.length_set] using (HS.sub lp (List.sublist_append_left _ _))), (OS.norm ik), (agC rfl (agC rfl (agC rfl (agC rfl agN)))), rfl, (by simp only [List.length_set]; exact hll), (by exact loc_set hlf (by omega) ⟨rfl, by (dsimp only; omega), by (dsimp only; omega)⟩), (by first | assumption | omega | (simp at *; omega))⟩
   omega
  have hg := f3
  try simp only [BS] at hg
  refine aZ ⟨.inl rfl, _, rfl, ll, av, E, I, _, (fT (g0) e0), d2, O, rfl, (by assumption)⟩
 rintro _ nz ⟨lc, ay, U, V, lM, h1, it, ch, rfl, hlc⟩
 refine aj 2 rfl ?_
 refine aa ?_
 refine wRo 6 0 [(2, .o (iI c.params))] 42 47 [] [(44, (iI c.params)), (47, (.pointer (some ⟨T, 7, none⟩)))] (vA (ql 3 0 (HS.hc it (i := 0) rfl) rfl rfl) trivial) rfl fun _ => ?_
 refine aT (aP (q := 4) it rfl rfl rfl rfl rfl rfl rfl rfl rfl) rfl ?_
 rintro _ nJ _ ⟨(iv : HS _ _ _ [a7, a8, p8, p9, [(T, .cells [(iI c.params), (iI c.regs), (.slice Z c.blocks.length ad), (.slice a2 J.length a5), (.slice a9 (List.replicate c.regs.toNat false).length k9), (.slice U lc.length V), (.slice none 0 0), (iI c.params)] none false)], ay] _), _⟩
 refine aj 3 rfl ?_
 refine wR 2 [(4, .o (.slice U lc.length V))] 48 54 [] [(53, (iI (lc.length : Int))), (54, (iI 0))] (vA (ql 37 5 (HS.hc iv (i := 4) rfl) rfl rfl) trivial) rfl fun _ => ?_
 refine ak (fun (mm : Nat) f H' => ∃ (rr : Nat) (F' : Fz), Fz.le lM F' ∧ HS (Base.of H []) F' H' [a7, a8, p8, p9, [(T, .cells [(iI c.params), (iI c.regs), (.slice Z c.blocks.length ad), (.slice a2 J.length a5), (.slice a9 (List.replicate c.regs.toNat false).length k9), (.slice U lc.length V), (.slice none 0 0), (iI c.params)] none false)], ay] R ∧ aH f [(2, (.pointer (some ⟨b3, 0, none⟩))), (3, (iI 0)), (4, (.pointer (some ⟨T, 0, none⟩))), (53, (iI (lc.length : Int))), (54, (iI (rr : Int)))] ∧ mm = c.regs.toNat - rr ∧ (rr ≤ c.regs.toNat)) _ ⟨0, _, fR, iv, (agC rfl (agC rfl (agC rfl (agC rfl (agC rfl agN))))), rfl, (by first | assumption | omega | (simp at *; omega))⟩ ?_
 rintro nu nU nK ⟨rr, ny, e1, cc, h7, rfl, hrr⟩ lz
 refine aq _ h7 (fun _ => ?_)
 clear h7
 replace ar := (ar.mono h1).mono e1
 replace ch := ch.mono e1
 refine am 1 rfl ?_
 refine wR 2 [] 55 55 [] [(55, (.bool (decide ((rr : Int) < (lc.length : Int)))))] trivial rfl fun _ => ?_
 refine au 4 6 (v := (decide ((rr : Int) < (lc.length : Int)))) rfl rfl rfl rfl (fun f9 => ?_) (fun f9 => ?_)
 ·
  have hw := f9
  try simp only [BS] at hw
  refine wR 2 [] 56 56 [5] [(5, (iI (rr : Int)))] trivial rfl fun _ => ?_
  obtain ⟨mN, lr⟩ := Sv.view (OS.sv ar cc (i := 3) rfl)
  refine wR 1 [(3, .o (.slice a9 (List.replicate c.regs.toNat false).length k9)), (6, .o (.bool ((List.replicate c.regs.toNat false).getD rr false)))] 57 63 [] [(63, (.bool ((List.replicate c.regs.toNat false).getD rr false)))] (vA (ql 53 4 (HS.hc cc (i := 4) rfl) rfl rfl) (vA (Sv.ix (j := (rr : Int)) (OS.sv ar cc (i := 3) rfl) (by first | (dsimp only; omega) | omega) (by first | (dsimp only; omega) | omega)) (vA (ql 4 0 (vB (lr rr) (by first | (dsimp only; omega) | omega)) rfl rfl) trivial))) rfl fun _ => ?_
  refine gR 2 (v := ((List.replicate c.regs.toNat false).getD rr false)) rfl (by exact rep_at) rfl rfl ?_
  refine wR 1 [] 54 54 [86] [(54, (iI ((rr : Int) + 1)))] (vA (vi (n := (rr : Int) + 1) (by first | (dsimp only; omega) | omega)) trivial) rfl fun _ => ?_
  refine lz _ _ _ ?_ ⟨rr + 1, _, (e1), cc, (agC rfl (agC rfl (agC rfl (agC rfl (agC rfl agN))))), rfl, (by first | assumption | omega | (simp at *; omega))⟩
  omega
 have hw := f9
 try simp only [BS] at hw
 refine wR 1 [(4, .o (iI c.params))] 87 92 [] [(92, (.bool (decide ((3000 : Int) < c.params))))] (vA (ql 3 7 (HS.hc cc (i := 4) rfl) rfl rfl) trivial) rfl fun _ => ?_
 refine gR 2 (v := (decide ((3000 : Int) < c.params))) rfl (by simp; omega) rfl rfl ?_
 refine aa ?_
 let kR : Value := (.agg ⟨[(.slice U lc.length V), (.slice none 0 0), (iI c.params)]⟩)
 refine wRo 4 0 [(3, .o kR)] 94 97 [] [(97, kR)] (vA (qn 40 5 3 (HS.hc cc (i := 4) rfl) rfl rfl rfl rfl) trivial) rfl fun _ => ?_
 refine aT (aP (q := 1) cc rfl rfl rfl rfl rfl rfl rfl rfl rfl) rfl ?_
 rintro _ nL _ ⟨(iz : HS _ _ _ [_, [(b3, .cells [(.slice U lc.length V), (.slice none 0 0), (iI c.params)] none false)], _, _, _, _] _), _⟩
 refine wa (iI 0) rfl rfl rfl ?_
 refine aj 1 rfl ?_
 obtain ⟨lR, kV, g5, lh, nl⟩ := OS.frz ch iz (i := 5) rfl
 have g5 : HS _ _ _ [_, _, _, _, _, []] _ := g5
 refine az ⟨.inr rfl, _, (rC rfl (ldVN rfl rfl (HS.hc iz (i := 1) rfl) rfl) (rT rfl rN)), (⟨lc, ([] : List SpiT), c.params⟩ : AllT), U, V, none, 0, 0, _, (fT (fT (fT (fT (fT (fT (kd) ke) es) e5) h1) e1) kV), (HS.forget g5), rfl, (by first | (dsimp only; omega) | omega), lh, (SR.nil : SR lR (.slice none 0 0) ([] : List SpiT)), (by first | rfl | omega | simp_all), (by assumption), (by rfl), (by rfl)⟩
end Go.Proofs.YtknafdcgpaejlaaDoor.nd
