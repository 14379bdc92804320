/-
 Live registers: the reference points and calls, by a symbolic run. No condition but bounds on lengths.
-/
import Derived.Test.YtlabedbmgmfbaaaDoorZCMI
noncomputable section
namespace Go.Proofs.YtlabedbmgmfbaaaDoor.mj
open Go.R
set_option maxRecDepth 10000
set_option linter.unusedVariables false
open m1 m2 m3 m4 m5 m6 ma ml mb mc md mf mg mh mi
theorem reads6 {v : VInT} (ho : v.i.op = 6) (x : Int) : x ∈ aW v ↔ x ∈ v.args := by
 have z : alV v.i.op = true := by rw [ho]; rfl
 have A : (aH v.i.op).ra = false := by rw [ho]; rfl
 have E : (aH v.i.op).rb = false := by rw [ho]; rfl
 unfold aW
 rw [if_pos z, uni_mem]
 unfold i7
 rw [A, E, if_neg (by simp), if_neg (by simp), if_neg (by omega), if_pos ho]
 simp
theorem ac_lst {c : VFnT} {b i : Nat} {l : List Int} (v : VF c) (hb : b < c.blocks.length) (hi : i < (cC c b).ins.length) (h : Lst l (ptS c b (i + 1))) : Lst (acV ((cC c b).ins.getD i default) l) (acI c b i) := by
 unfold acV
 have hv := cE (v.ins b hb i hi)
 split
 ·
  rename_i ho
  refine Lst.ext (Lst.addL (l := aW ((cC c b).ins.getD i default)) (Lst.minus (w := [((cC c b).ins.getD i default).i.a]) h) fun x hx => (hv.1 x hx).1) fun r => ?_
  rw [reads6 ho, List.mem_singleton]
  unfold acI
  exact ⟨fun h => ⟨ho, h⟩, fun h => h.2⟩
 ·
  rename_i ho
  exact Lst.nil fun r h => ho h.1
def acJ (c : VFnT) (b k r : Nat) : Prop := acK c b r ∨ ∃ j, j < k ∧ acI c b j r
theorem acj_zero {c : VFnT} {b : Nat} {o : List Int} (h : Lst o (acK c b)) : Lst o (acJ c b 0) := Lst.ext h fun r => ⟨.inl, fun h => h.elim id fun ⟨j, h, _⟩ => absurd h (Nat.not_lt_zero _)⟩
theorem acj_step {c : VFnT} {b k : Nat} {o l : List Int} (h : Lst o (acJ c b k)) (hl : Lst l (acI c b k)) : Lst (cH o l) (acJ c b (k + 1)) := Lst.ext (Lst.union h hl) fun r => by
 unfold acJ
 constructor
 ·
  rintro ((h | ⟨j, A, z⟩) | h)
  ·
   exact .inl h
  ·
   exact .inr ⟨j, by omega, z⟩
  ·
   exact .inr ⟨k, Nat.lt_succ_self _, h⟩
 ·
  rintro (h | ⟨j, A, z⟩)
  ·
   exact .inl (.inl h)
  ·
   rcases Nat.lt_or_ge j k with hj | hj
   ·
    exact .inl (.inr ⟨j, hj, z⟩)
   ·
    rw [show j = k by omega] at z; exact .inr z
theorem acj_all {c : VFnT} {b k : Nat} {o : List Int} (hk : (cC c b).ins.length = k) (h : Lst o (acJ c b k)) : Lst o (acK c (b + 1)) := Lst.ext h fun r => by
 unfold acJ acK
 constructor
 ·
  rintro (⟨b', j, E, z, A⟩ | ⟨j, E, z⟩)
  ·
   exact ⟨b', j, by omega, z, A⟩
  ·
   exact ⟨b, j, Nat.lt_succ_self _, by omega, z⟩
 ·
  rintro ⟨b', j, E, z, A⟩
  rcases Nat.lt_or_ge b' b with hb | hb
  ·
   exact .inl ⟨b', j, hb, z, A⟩
  ·
   have : b' = b := by omega
   subst this
   exact .inr ⟨j, by omega, A⟩
theorem ack_zero {c : VFnT} : Lst [] (acK c 0) := Lst.nil fun r ⟨b, _, z, _⟩ => Nat.not_lt_zero _ z
theorem ack_all {c : VFnT} {b : Nat} {o : List Int} (hb : b = c.blocks.length) (h : Lst o (acK c b)) : Lst o (acS c) := by subst hb; exact h
theorem aci_lt {c : VFnT} (v : VF c) {b i r : Nat} (hb : b < c.blocks.length) (hi : i < (cC c b).ins.length) (h : acI c b i r) : (r : Int) < c.regs := by
 rcases h with ⟨ho, ⟨z, _⟩ | z⟩
 ·
  exact pt_lt v hb z
 ·
  exact ((cE (v.ins b hb i hi)).1 _ ((reads6 ho _).2 z)).2
theorem ack_lt {c : VFnT} (v : VF c) {k r : Nat} (hk : k ≤ c.blocks.length) (h : acK c k r) : (r : Int) < c.regs := by
 obtain ⟨b, i, E, z, A⟩ := h
 exact aci_lt v (by omega) z A
theorem acj_lt {c : VFnT} (v : VF c) {b k r : Nat} (hb : b < c.blocks.length) (hk : k ≤ (cC c b).ins.length) (h : acJ c b k r) : (r : Int) < c.regs := by
 rcases h with h | ⟨j, A, z⟩
 ·
  exact ack_lt v (Nat.le_of_lt hb) h
 ·
  exact aci_lt v hb (by omega) z
theorem acV_len {v : VInT} {l : List Int} : (acV v l).length ≤ l.length + (3 + v.args.length) := by
 unfold acV
 split
 ·
  refine Nat.le_trans ed ?_
  have z : (jI l [v.i.a]).length ≤ l.length := List.length_filter_le _ _
  have A := gj (v := v)
  omega
 ·
  exact Nat.zero_le _
set_option maxHeartbeats 1000000 in
theorem rlp_c (ex : FuncId) {z : Option Addr} {E : Nat} (c : VFnT) (block : Int) {F : Fz} {H : Heap} {R : List Fp} (hs : HS (.of H []) F H [] R) (c9 : in64 c.params) (dd : in64 c.regs) (N : SR F (.slice z c.blocks.length E) c.blocks) (hblock : in64 block) (hT : TB 37 tabC F) (hins : ∀ j, (c.blocks.getD j default).ins.length ≤ 1073741824) : C Tryd.prog 1 (KT 60 ex 37 tabC) 26 [(.agg ⟨[(iI c.params), (iI c.regs), (.slice z c.blocks.length E)]⟩), (iI block)] H fun v H' => ∃ (al : Option Addr) (kl : Nat) (l : List (List Int)) (F' : Fz), Fz.le F F' ∧ HS (.of H []) F' H' [] R ∧ v = .slice al l.length kl ∧ SR F' (.slice al l.length kl) l ∧ (b8 c = true → 0 ≤ block → block < (c.blocks.length : Int) → PtF c block.toNat l) ∧ ((b8 c = false ∨ block < 0 ∨ (c.blocks.length : Int) ≤ block) → l = []) := by
 refine aG Tryd.func26 rfl rfl ?_
 refine aj 1 rfl ?_
 refine aa ?_
 refine aF (bB hs rfl rfl) rfl rfl ?_
 rintro _ H2 _ ⟨b1, rfl, Y, _⟩
 have Y : HS _ _ _ [[(b1, .cells [(iI c.params), (iI c.regs), (.slice z c.blocks.length E)] none false)]] _ := Y
 refine wa (.slice none 0 0) rfl rfl rfl ?_
 refine ae 3 rfl ?_
 refine aa ?_
 let ar : Value := (.agg ⟨[(iI c.params), (iI c.regs), (.slice z c.blocks.length E)]⟩)
 refine wRo 1 0 [(0, .o ar)] 7 7 [] [(7, ar)] (vA (qn 24 0 3 (HS.hc Y (i := 0) rfl) rfl rfl rfl rfl) trivial) rfl fun _ => ?_
 refine aA (ah rfl rfl rfl) rfl rfl (m3.kG ex c (HS.call Y) (by first | (dsimp only; omega) | omega) (by first | (dsimp only; omega) | omega) N hT (by exact fun j => Nat.le_trans (hins j) (by omega))) ?_
 rintro _ H4 ⟨r4, F4, an, T, rfl, rfl⟩
 replace T := HS.back Y rfl T
 have T : HS _ _ _ [_] _ := T
 replace hT := hT.mono an
 replace N := N.mono an
 refine wRo 12 2 [(10, .o (.slice z c.blocks.length E))] 9 20 [] [(20, (.bool (((!(b8 c)) || (decide (block < 0))) || (decide ((c.blocks.length : Int) ≤ block)))))] (vA (fun (g1 : ((!(b8 c)) || (decide (block < 0))) = false) => (ql 22 2 (HS.hc T (i := 0) rfl) rfl rfl)) trivial) rfl fun _ => ?_
 refine ae 1 rfl ?_
 refine ak 1 2 (v := (((!(b8 c)) || (decide (block < 0))) || (decide ((c.blocks.length : Int) ≤ block)))) rfl rfl rfl rfl (fun c6 => ?_) (fun c6 => ?_)
 ·
  try simp only [BS] at c6
  have hb := c6
  refine wR 1 [] 4 4 [] [(4, (.slice none 0 0))] trivial rfl fun _ => ?_
  refine ag ⟨.inr rfl, _, rfl, none, 0, ([] : List (List Int)), _, (an), (HS.forget T), rfl, (SR.nil : SR F4 (.slice none 0 0) ([] : List (List Int))), (by first | exact fun h h2 h3 => absurd hb (by simp [h]; omega) | exact fun _ _ _ => ptf_of (bk.hy _ hbn) (by assumption)), (by first | exact fun _ => rfl | exact fun h => by rw [hv] at h; simp at h; omega)⟩
 ·
  try simp only [BS] at c6
  have hb := c6
  have hv : b8 c = true := hb.1.1
  have vF := jF hv
  have hnb := vF.nb
  have hbn : block.toNat < c.blocks.length := by omega
  have hbl := hins block.toNat
  refine aa ?_
  refine wRo 1 0 [(0, .o ar)] 22 22 [] [(22, ar)] (vA (qn 24 0 3 (HS.hc T (i := 0) rfl) rfl rfl rfl rfl) trivial) rfl fun _ => ?_
  refine aA (ah rfl rfl rfl) rfl rfl (mi.rblocks_c ex c (HS.call T) (by first | (dsimp only; omega) | omega) (by first | (dsimp only; omega) | omega) N hT (by assumption)) ?_
  rintro _ H9 ⟨dt, d2, x9, V, Z, U, F9, ax, J, rfl, dl, ay, d1, dv⟩
  replace J := HS.back T rfl J
  have J : HS _ _ _ [_] _ := J
  replace hT := hT.mono ax
  replace N := N.mono ax
  refine wRo 5 2 [] 24 25 [5, 6, 21] [(6, (.slice V U.length Z))] trivial rfl fun _ => ?_
  refine ae 2 rfl ?_
  have bk := (by assumption : b8 c = true → BkF c _ U) hv
  have hlx := bk.lx
  have hly := bk.ly
  have hyl := Lst.len (bk.hy block.toNat hbn) vF.regs.1 (fun r h => gL vF h)
  refine bc rfl ?_
  refine am (v := (.pointer (some ⟨b1, 2, none⟩))) (id := .v) (dA rfl rfl) rfl rfl (br rfl) (be _) ?_
  refine am (v := (.slice z c.blocks.length E)) (id := .l b1) (bN (i := 2) rfl rfl (HS.hc J.log0 (i := 0) rfl) rfl rfl) rfl rfl (bT rfl) (⟨.inl rfl, trivial⟩) ?_
  refine fm (iI block) rfl rfl rfl ?_
  refine am (v := (.pointer (some ⟨sB (.slice z c.blocks.length E), sO (.slice z c.blocks.length E) + block.toNat * Rp.sz BlkT, none⟩))) (id := .v) (bU (α := BlkT) (j := block) rfl rfl rfl rfl (SR.sv N J.log0) (by first | (dsimp only; omega) | omega) (by first | (dsimp only; omega) | omega)) rfl rfl (br rfl) (be _) ?_
  obtain ⟨c3, b3, b0⟩ := Sv.at (SR.sv N J.log0) (aS (x := default) (show block.toNat < c.blocks.length from by first | (dsimp only; omega) | omega))
  obtain ⟨a1, a5, rfl, cc, ch, ci, cl, a7⟩ := b3
  refine am (v := (.agg ⟨[(.slice a1 (c.blocks.getD block.toNat default).ins.length a5), (iI (c.blocks.getD block.toNat default).fin), (iI (c.blocks.getD block.toNat default).reg), (iI (c.blocks.getD block.toNat default).tgt), (iI (c.blocks.getD block.toNat default).els)]⟩)) (id := .l (sB (.slice z c.blocks.length E))) (cY (i := 0) rfl rfl rfl b0 rfl rfl rfl) rfl rfl (bT rfl) (⟨.inl rfl, ⟨.inl rfl, ⟨.inl rfl, ⟨.inl rfl, trivial⟩⟩⟩⟩) ?_
  refine fm (.slice V U.length Z) rfl rfl rfl ?_
  refine fm (iI block) rfl rfl rfl ?_
  refine am (v := (.pointer (some ⟨sB (.slice V U.length Z), sO (.slice V U.length Z) + block.toNat * Rp.sz (List Int), none⟩))) (id := .v) (bU (α := (List Int)) (j := block) rfl rfl rfl rfl (SR.sv ay J.log0) (by first | (dsimp only; omega) | omega) (by first | (dsimp only; omega) | omega)) rfl rfl (br rfl) (be _) ?_
  obtain ⟨c4, b4, b2⟩ := Sv.at (SR.sv ay J.log0) (aS (x := default) (show block.toNat < U.length from by first | (dsimp only; omega) | omega))
  obtain ⟨a2, a6, rfl, a8⟩ := b4
  refine am (v := (.slice a2 (U.getD block.toNat default).length a6)) (id := .l (sB (.slice V U.length Z))) (bN (i := 0) rfl rfl b2 rfl rfl) rfl rfl (bT rfl) (⟨.inl rfl, ⟨.inl rfl, ⟨.inl rfl, ⟨.inr trivial, ⟨.inr trivial, ⟨.inr trivial, ⟨.inr trivial, ⟨.inr trivial, trivial⟩⟩⟩⟩⟩⟩⟩⟩) ?_
  refine aX (W := []) (ah rfl rfl rfl) rfl rfl rfl (mh.rpoints_c ex (c.blocks.getD block.toNat default) (U.getD block.toNat default) (HS.call J.log0) a7 (by first | (dsimp only; omega) | omega) (by first | (dsimp only; omega) | omega) (by first | (dsimp only; omega) | omega) (by first | (dsimp only; omega) | omega) a8 hT (by exact ⟨_, rpo_out vF hbn hbl (bk.hy _ hbn)⟩)) (⟨.inl rfl, ⟨.inl rfl, ⟨.inl rfl, ⟨.inl rfl, ⟨.inl rfl, ⟨.inl rfl, ⟨.inl rfl, ⟨.inl rfl, ⟨.inl rfl, trivial⟩⟩⟩⟩⟩⟩⟩⟩⟩) ?_
  rintro _ b7 ⟨av, a0, a9, b9, dn, bl, A, rfl, a4, c5⟩
  refine ⟨Wr.did A.log, fun b6 a3 => ?_⟩
  replace A := HS.back J.log0 rfl A
  replace A := HS.lg A J a3
  generalize ({ b7 with log := b6 } : Heap) = c0 at A ⊢
  have A : HS _ _ _ [_, b9] _ := A
  refine fa (.slice av a9.length a0) rfl rfl rfl ?_
  refine cz ?_
  refine aj 1 rfl ?_
  obtain ⟨ds, bz, ad, b5, dk⟩ := OS.frz a4 A (i := 1) rfl
  have ad : HS _ _ _ [_, []] _ := ad
  refine ag ⟨.inr rfl, _, rfl, av, a0, a9, _, (fT (fT (fT (an) ax) bl) bz), (HS.forget ad), rfl, b5, (by first | exact fun h h2 h3 => absurd hb (by simp [h]; omega) | exact fun _ _ _ => ptf_of (bk.hy _ hbn) (by assumption)), (by first | exact fun _ => rfl | exact fun h => by rw [hv] at h; simp at h; omega)⟩
set_option maxHeartbeats 2000000 in
theorem rac_c (ex : FuncId) {z : Option Addr} {E : Nat} (c : VFnT) {F : Fz} {H : Heap} {R : List Fp} (hs : HS (.of H []) F H [] R) (ha : in64 c.params) (he : in64 c.regs) (A : SR F (.slice z c.blocks.length E) c.blocks) (hT : TB 37 tabC F) (hins : ∀ j, (c.blocks.getD j default).ins.length ≤ 1073741824) : C Tryd.prog 1 (KT 60 ex 37 tabC) 24 [(.agg ⟨[(iI c.params), (iI c.regs), (.slice z c.blocks.length E)]⟩)] H fun v H' => ∃ (ar : Option Addr) (kr : Nat) (r : List Int) (F' : Fz), Fz.le F F' ∧ HS (.of H []) F' H' [] R ∧ v = .slice ar r.length kr ∧ SR F' (.slice ar r.length kr) r ∧ (b8 c = true → Lst r (acS c)) ∧ (b8 c = false → r = []) := by
 refine aG Tryd.func24 rfl rfl ?_
 refine aj 1 rfl ?_
 refine aa ?_
 refine aF (bB hs rfl rfl) rfl rfl ?_
 rintro _ H2 _ ⟨b1, rfl, cc, _⟩
 let b2 : Fp := [(b1, .cells [(iI c.params), (iI c.regs), (.slice z c.blocks.length E)] none false)]
 have cc : HS _ _ _ [b2] _ := cc
 refine wa (.slice none 0 0) rfl rfl rfl ?_
 refine ae 2 rfl ?_
 refine wR 3 [] 1 0 [3] [(3, (.slice none 0 0))] trivial rfl fun _ => ?_
 refine wR 2 [] 1 0 [4] [(4, (iI 0))] trivial rfl fun _ => ?_
 refine ap (fun (mm : Nat) f H' => ∃ (o : List Int) (b : Nat) (Z : Option Addr) (al : Nat) (F' : Fz), Fz.le F F' ∧ HS (Base.of H []) F' H' [b2] R ∧ SR F' (.slice Z o.length al) o ∧ aI f [(1, (.pointer (some ⟨b1, 0, none⟩))), (2, (.slice none 0 0)), (3, (.slice Z o.length al)), (4, (iI (b : Int)))] ∧ mm = c.blocks.length - b ∧ (b8 c = false → o = []) ∧ (b8 c = true → Lst o (acK c b)) ∧ (b8 c = true → b ≤ c.blocks.length) ∧ (b ≤ 1000)) _ ⟨([] : List Int), 0, none, 0, _, fR, cc, (SR.nil : SR F (.slice none 0 0) ([] : List Int)), (agC rfl (agC rfl (agC rfl (agC rfl agN)))), rfl, (by exact fun _ => rfl), (by exact fun _ => ack_zero), (by exact fun _ => Nat.zero_le _), (by first | assumption | omega | (simp at *; omega))⟩ ?_
 rintro ht f5 H5 ⟨o, b, Z, al, F5, bl, a1, ad, dk, rfl, hz, ho, hbb, hr⟩ e0
 refine au _ dk (fun _ => ?_)
 clear dk
 replace hT := hT.mono bl
 replace A := A.mono bl
 refine aj 2 rfl ?_
 refine wk_rcut 7 15 [] [(15, (.bool ((decide ((b : Int) < (c.blocks.length : Int))) && b8 c)))] (fun H' => ∃ F', Fz.le F5 F' ∧ HS (Base.of H []) F' H' [b2] R) ?_ ?_
 ·
  refine aa ?_
  refine wm (iI (b : Int)) rfl rfl rfl ?_
  refine bX (v := (.pointer (some ⟨b1, 2, none⟩))) (dA rfl rfl) rfl rfl ?_
  refine bX (v := (.slice z c.blocks.length E)) (bN (i := 2) rfl rfl (HS.hc a1 (i := 0) rfl) rfl rfl) rfl rfl ?_
  refine bX (v := (iI (c.blocks.length : Int))) (fZ (α := BlkT) rfl rfl (SR.sv A a1)) rfl rfl ?_
  refine bX (v := (.bool (decide ((b : Int) < (c.blocks.length : Int))))) (ap_cmp rfl rfl rfl rfl) rfl rfl ?_
  refine wm (.bool (decide ((b : Int) < (c.blocks.length : Int)))) rfl rfl rfl ?_
  refine wo_gsT (v := (decide ((b : Int) < (c.blocks.length : Int)))) rfl rfl (fun g8 => ?_) (fun g8 => ?_)
  ·
   have cl := g8
   try simp only [BS] at cl
   refine bX (v := (.agg ⟨[(iI c.params), (iI c.regs), (.slice z c.blocks.length E)]⟩)) (cY (i := 0) rfl rfl rfl (HS.hc a1 (i := 0) rfl) rfl rfl rfl) rfl rfl ?_
   refine ge rfl g8 ?_
   refine aA (ah rfl rfl rfl) rfl rfl (m3.kG ex c (HS.call a1) (by first | (dsimp only; omega) | omega) (by first | (dsimp only; omega) | omega) A hT (by exact fun j => Nat.le_trans (hins j) (by omega))) ?_
   rintro _ H9 ⟨r9, F9, ez, bb, rfl, rfl⟩
   replace bb := HS.back a1 rfl bb
   have bb : HS _ _ _ [_] _ := bb
   refine bX (v := (.bool (b8 c))) (iL rfl g8 rfl) rfl rfl ?_
   refine iO ?_
   exact bO ⟨rfl, ⟨_, (fT fR ez), HS.sub bb (List.Sublist.refl _)⟩, (Lu rfl (Lu rfl (Lu rfl (Lu rfl (Lu rfl (Lu rfl (Lu rfl (Lu rfl (Lu rfl Lr))))))))), (agC (congrArg Value.bool (show b8 c = ((decide ((b : Int) < (c.blocks.length : Int))) && b8 c) by first | rfl | simp only [↓g8, BT] | grind)) agN)⟩
  ·
   have cl := g8
   try simp only [BS] at cl
   refine iP rfl g8 rfl ?_
   refine bX (v := (.bool false)) (fu rfl g8 rfl) rfl rfl ?_
   refine iO ?_
   exact bO ⟨rfl, ⟨_, fR, HS.sub a1 (List.Sublist.refl _)⟩, (Lu rfl (Lu rfl (Lu rfl (Lu rfl (Lu rfl (Lu rfl (Lu rfl (Lu rfl (Lu rfl Lr))))))))), (agC (congrArg Value.bool (show false = ((decide ((b : Int) < (c.blocks.length : Int))) && b8 c) by first | rfl | simp only [↓g8, BT] | grind)) agN)⟩
 ·
  rintro g7 H7 ⟨F7, a9, bz⟩
  replace hT := hT.mono a9
  replace A := A.mono a9
  replace ad := ad.mono a9
  refine aj 1 rfl ?_
  refine ak 4 5 (v := ((decide ((b : Int) < (c.blocks.length : Int))) && b8 c)) rfl rfl rfl rfl (fun a8 => ?_) (fun a8 => ?_)
  ·
   try simp only [BS] at a8
   have hcc := a8
   have hv : b8 c = true := hcc.2
   have vF := jF hv
   have hnb := vF.nb
   have hrg := vF.regs
   have hbn : b < c.blocks.length := by omega
   have hbl := hins b
   refine aa ?_
   let co : Value := (.agg ⟨[(iI c.params), (iI c.regs), (.slice z c.blocks.length E)]⟩)
   refine wRo 2 0 [(0, .o co)] 18 19 [] [(18, co), (19, (iI (b : Int)))] (vA (qn 24 0 3 (HS.hc bz (i := 0) rfl) rfl rfl rfl rfl) trivial) rfl fun _ => ?_
   refine aA (ah rfl rfl rfl) rfl rfl (rlp_c ex c (b : Int) (HS.call bz) (by first | (dsimp only; omega) | omega) (by first | (dsimp only; omega) | omega) A (by first | (dsimp only; omega) | omega) hT (by assumption)) ?_
   rintro _ hp ⟨a2, a7, T, ea, a4, ay, rfl, a5, g6, g5⟩
   replace ay := HS.back bz rfl ay
   have ay : HS _ _ _ [_] _ := ay
   replace ad := ad.mono a4
   refine wa (.slice a2 T.length a7) rfl rfl rfl ?_
   refine ae 2 rfl ?_
   have pf : PtF c b T := (by assumption : b8 c = true → 0 ≤ ((b : Nat) : Int) → ((b : Nat) : Int) < (c.blocks.length : Int) → PtF c ((b : Nat) : Int).toNat T) hv (by omega) (by omega)
   have hpl : (T).length = (c.blocks.getD b default).ins.length + 1 := pf.len
   refine wR 2 [] 1 0 [6] [(6, (iI 0))] trivial rfl fun _ => ?_
   refine ap (fun (mm : Nat) f H' => ∃ (o2 : List Int) (k : Nat) (V : Option Addr) (Y : Nat) (F' : Fz), Fz.le ea F' ∧ HS (Base.of H []) F' H' [b2] R ∧ SR F' (.slice V o2.length Y) o2 ∧ aI f [(1, (.pointer (some ⟨b1, 0, none⟩))), (2, (.slice none 0 0)), (3, (.slice V o2.length Y)), (4, (iI (b : Int))), (5, (.slice a2 T.length a7)), (6, (iI (k : Int))), (15, (.bool ((decide ((b : Int) < (c.blocks.length : Int))) && b8 c))), (18, co), (19, (iI (b : Int))), (20, (.slice a2 T.length a7))] ∧ mm = (c.blocks.getD b default).ins.length - k ∧ (k ≤ (c.blocks.getD b default).ins.length) ∧ (Lst o2 (acJ c b k))) _ ⟨o, 0, Z, al, _, fR, ay, ad, (agC rfl (agC rfl (agC rfl (agC rfl (agC rfl (agC rfl (agC rfl (agC rfl (agC rfl (agC rfl agN)))))))))), rfl, (by first | assumption | omega | (simp at *; omega)), (by exact acj_zero (ho hv))⟩ ?_
   rintro hj hq em ⟨o2, k, V, Y, hl, ax, J, an, b7, rfl, hk, b9⟩ d1
   refine au _ b7 (fun _ => ?_)
   clear b7
   replace hT := (hT.mono a4).mono ax
   replace A := (A.mono a4).mono ax
   replace a5 := a5.mono ax
   refine aj 2 rfl ?_
   obtain ⟨b6, ch⟩ := Sv.view (SR.sv A J)
   obtain ⟨e1, e2, e3, e4, f6⟩ := BlkT.fx (ch b)
   refine wR 1 [(2, .o (.slice z c.blocks.length E)), (6, .o (.slice (cA (b6 b) 0) (c.blocks.getD b default).ins.length (cK (b6 b) 0)))] 21 29 [] [(29, (.bool (decide ((k : Int) < ((c.blocks.getD b default).ins.length : Int)))))] (vA (ql 22 2 (HS.hc J (i := 0) rfl) rfl rfl) (vA (Sv.ix (j := (b : Int)) (SR.sv A J) (by first | (dsimp only; omega) | omega) (by first | (dsimp only; omega) | omega)) (vA (ql 40 0 (BlkT.vw (ch b) (by first | (dsimp only; omega) | omega)) rfl rfl) trivial))) rfl fun _ => ?_
   refine ak 3 5 (v := (decide ((k : Int) < ((c.blocks.getD b default).ins.length : Int)))) rfl rfl rfl rfl (fun b5 => ?_) (fun b5 => ?_)
   ·
    try simp only [BS] at b5
    have hkn : k < (c.blocks.getD b default).ins.length := by omega
    have hol := Lst.len b9 hrg.1 (fun r h => acj_lt vF hbn hk h)
    have hal : (((T).getD (k + 1) default).length : Int) ≤ c.regs := Lst.len (pf.pt (k + 1) hkn) hrg.1 (fun r h => pt_lt vF hbn h)
    have g9 : (((T).getD (((k : Nat) : Int) + 1).toNat default).length : Int) ≤ c.regs := hal
    have hf : ((c.blocks.getD b default).ins.getD k default).args.length ≤ 6 := (cE (vF.ins b hbn k hkn)).2.2
    have hcl := acV_len (v := ((c.blocks.getD b default).ins.getD k default)) (l := (T).getD (((k : Nat) : Int) + 1).toNat default)
    refine bc rfl ?_
    refine fm (.slice V o2.length Y) rfl rfl rfl ?_
    refine am (v := (.pointer (some ⟨b1, 2, none⟩))) (id := .v) (dA rfl rfl) rfl rfl (br rfl) (be _) ?_
    refine am (v := (.slice z c.blocks.length E)) (id := .l b1) (bN (i := 2) rfl rfl (HS.hc J.log0 (i := 0) rfl) rfl rfl) rfl rfl (bT rfl) (⟨.inl rfl, ⟨.inr trivial, trivial⟩⟩) ?_
    refine fm (iI (b : Int)) rfl rfl rfl ?_
    refine am (v := (.pointer (some ⟨sB (.slice z c.blocks.length E), sO (.slice z c.blocks.length E) + b * Rp.sz BlkT, none⟩))) (id := .v) (bU (α := BlkT) (j := (b : Int)) rfl rfl rfl rfl (SR.sv A J.log0) (by first | (dsimp only; omega) | omega) (by first | (dsimp only; omega) | omega)) rfl rfl (br rfl) (be _) ?_
    refine am (v := (.pointer (some ⟨sB (.slice z c.blocks.length E), sO (.slice z c.blocks.length E) + b * Rp.sz BlkT, none⟩))) (id := .v) (dA rfl rfl) rfl rfl (br rfl) (be _) ?_
    obtain ⟨g3, dt, dn⟩ := Sv.at (SR.sv A J.log0) (aS (x := default) (show b < c.blocks.length from by first | (dsimp only; omega) | omega))
    obtain ⟨av, aw, rfl, e5, e6, fd, fi, b0⟩ := dt
    refine am (v := (.slice av (c.blocks.getD b default).ins.length aw)) (id := .l (sB (.slice z c.blocks.length E))) (bN (i := 0) rfl rfl dn rfl rfl) rfl rfl (bT rfl) (⟨.inl rfl, ⟨.inl rfl, ⟨.inl rfl, ⟨.inl rfl, ⟨.inl rfl, ⟨.inr trivial, trivial⟩⟩⟩⟩⟩⟩) ?_
    refine fm (iI (k : Int)) rfl rfl rfl ?_
    refine am (v := (.pointer (some ⟨sB (.slice av (c.blocks.getD b default).ins.length aw), sO (.slice av (c.blocks.getD b default).ins.length aw) + k * Rp.sz VInT, none⟩))) (id := .v) (bU (α := VInT) (j := (k : Int)) rfl rfl rfl rfl (SR.sv b0 J.log0) (by first | (dsimp only; omega) | omega) (by first | (dsimp only; omega) | omega)) rfl rfl (br rfl) (be _) ?_
    obtain ⟨g4, dv, ds⟩ := Sv.at (SR.sv b0 J.log0) (aS (x := default) (show k < (c.blocks.getD b default).ins.length from by first | (dsimp only; omega) | omega))
    obtain ⟨c0, c9, rfl, f0, f1, f2, f3, f4, dd⟩ := dv
    refine am (v := (.agg ⟨[(iI ((c.blocks.getD b default).ins.getD k default).i.op), (iI ((c.blocks.getD b default).ins.getD k default).i.a), (iI ((c.blocks.getD b default).ins.getD k default).i.b), (iI ((c.blocks.getD b default).ins.getD k default).i.c), (iI ((c.blocks.getD b default).ins.getD k default).i.n), (.slice c0 ((c.blocks.getD b default).ins.getD k default).args.length c9)]⟩)) (id := .l (sB (.slice av (c.blocks.getD b default).ins.length aw))) (cY (i := 0) rfl rfl rfl ds rfl rfl rfl) rfl rfl (bT rfl) (⟨.inl rfl, ⟨.inl rfl, ⟨.inl rfl, ⟨.inl rfl, ⟨.inl rfl, ⟨.inl rfl, ⟨.inl rfl, ⟨.inl rfl, ⟨.inr trivial, trivial⟩⟩⟩⟩⟩⟩⟩⟩⟩) ?_
    refine fm (.slice a2 T.length a7) rfl rfl rfl ?_
    refine fm (iI (k : Int)) rfl rfl rfl ?_
    refine aX (W := []) (ah rfl rfl rfl) rfl rfl rfl (mh.after_c ex T (k : Int) (HS.call J.log0) a5 (by first | (dsimp only; omega) | omega) hT (by first | (dsimp only; omega) | omega)) (⟨.inl rfl, ⟨.inl rfl, ⟨.inr List.not_mem_nil, ⟨.inr trivial, ⟨.inr trivial, ⟨.inr List.not_mem_nil, ⟨.inr trivial, ⟨.inr trivial, ⟨.inr trivial, ⟨.inr List.not_mem_nil, ⟨.inr trivial, ⟨.inr trivial, trivial⟩⟩⟩⟩⟩⟩⟩⟩⟩⟩⟩⟩) ?_
    rintro _ _ ⟨g1, hg, hu, rfl, rfl, c6, rfl⟩
    refine ⟨fun b hb => absurd hb List.not_mem_nil, fun d2 c3 => ?_⟩
    have a6 := HS.lg J.log0 J c3
    generalize ({ { em with log := [] } with log := d2 } : Heap) = f9 at a6 ⊢
    refine aX (W := []) (ah rfl rfl rfl) rfl rfl rfl (mh.acall_c ex ((c.blocks.getD b default).ins.getD k default) (T.getD ((k : Int) + 1).toNat default) (HS.call a6.log0) (by first | (dsimp only; omega) | omega) (by first | (dsimp only; omega) | omega) (by first | (dsimp only; omega) | omega) (by first | (dsimp only; omega) | omega) (by first | (dsimp only; omega) | omega) dd c6 hT (by first | (dsimp only; omega) | omega) (by first | (dsimp only; omega) | omega)) (⟨.inl rfl, ⟨.inl rfl, ⟨.inl rfl, ⟨.inl rfl, ⟨.inl rfl, ⟨.inl rfl, ⟨.inl rfl, ⟨.inl rfl, ⟨.inl rfl, ⟨.inl rfl, ⟨.inl rfl, ⟨.inl rfl, ⟨.inr trivial, trivial⟩⟩⟩⟩⟩⟩⟩⟩⟩⟩⟩⟩⟩) ?_
    rintro _ es ⟨g2, hh, hw, hm, bk, N, rfl, c7, rfl⟩
    refine ⟨Wr.did N.log, fun d3 c4 => ?_⟩
    replace N := HS.back a6.log0 rfl N
    replace N := HS.lg N a6 c4
    generalize ({ es with log := d3 } : Heap) = go at N ⊢
    have N : HS _ _ _ [_] _ := N
    replace hT := hT.mono bk
    replace an := an.mono bk
    refine aX (W := []) (ah rfl rfl rfl) rfl rfl rfl (ma.ev ex o2 (acV ((c.blocks.getD b default).ins.getD k default) (T.getD ((k : Int) + 1).toNat default)) (HS.call N.log0) an c7 hT (by first | (dsimp only; omega) | omega)) (⟨.inl rfl, ⟨.inl rfl, ⟨.inl rfl, ⟨.inl rfl, ⟨.inl rfl, ⟨.inl rfl, ⟨.inl rfl, ⟨.inl rfl, ⟨.inl rfl, ⟨.inl rfl, ⟨.inl rfl, ⟨.inl rfl, ⟨.inl rfl, ⟨.inl rfl, trivial⟩⟩⟩⟩⟩⟩⟩⟩⟩⟩⟩⟩⟩⟩) ?_
    rintro _ et ⟨b4, ci, hA, hn, dl, U, rfl, c8, rfl⟩
    refine ⟨Wr.did U.log, fun d4 c5 => ?_⟩
    replace U := HS.back N.log0 rfl U
    replace U := HS.lg U N c5
    generalize ({ et with log := d4 } : Heap) = g0 at U ⊢
    have U : HS _ _ _ [_] _ := U
    refine fa (.slice b4 (cH o2 (acV ((c.blocks.getD b default).ins.getD k default) (T.getD ((k : Int) + 1).toNat default))).length ci) rfl rfl rfl ?_
    refine cz ?_
    refine aj 2 rfl ?_
    refine wR 1 [] 30 31 [6] [(6, (iI ((k : Int) + 1)))] (vA (vi (n := (k : Int) + 1) (by first | (dsimp only; omega) | omega)) trivial) rfl fun _ => ?_
    refine d1 _ _ _ ?_ ⟨cH o2 (acV ((c.blocks.getD b default).ins.getD k default) (T.getD ((k : Int) + 1).toNat default)), k + 1, b4, ci, _, (fT (fT (ax) bk) dl), U, c8, (agC rfl (agC rfl (agC rfl (agC rfl (agC rfl (agC rfl (agC rfl (agC rfl (agC rfl (agC rfl agN)))))))))), rfl, (by first | assumption | omega | (simp at *; omega)), (by exact acj_step b9 (ac_lst vF hbn hkn (pf.pt (k + 1) hkn)))⟩
    omega
   ·
    try simp only [BS] at b5
    refine wR 1 [] 16 17 [4] [(4, (iI ((b : Int) + 1)))] (vA (vi (n := (b : Int) + 1) (by first | (dsimp only; omega) | omega)) trivial) rfl fun _ => ?_
    refine e0 _ _ _ ?_ ⟨o2, b + 1, V, Y, _, (fT (fT (fT (bl) a9) a4) ax), J, an, (agC rfl (agC rfl (agC rfl (agC rfl agN)))), rfl, (by exact fun h => absurd (hv.symm.trans h) (by decide)), (by exact fun _ => acj_all (show (c.blocks.getD b default).ins.length = k by omega) b9), (by exact fun _ => hbn), (by first | assumption | omega | (simp at *; omega))⟩
    omega
  ·
   try simp only [BS] at a8
   have hex : b8 c = true → c.blocks.length ≤ b := fun h => by (have hc := a8; simp only [h] at hc; simp at hc; omega)
   refine wR 1 [] 2 2 [47] [(2, (.slice Z o.length al))] trivial rfl fun _ => ?_
   refine ag ⟨.inr rfl, _, rfl, Z, al, o, _, (fT (bl) a9), (HS.forget bz), rfl, ad, (by exact fun h => ack_all (by have h2 := hbb h; have h3 := hex h; omega) (ho h)), (by first | assumption)⟩
end Go.Proofs.YtlabedbmgmfbaaaDoor.mj
