/-
 Live registers: the reference points and calls, by a symbolic run. No condition but bounds on lengths.
-/
import Derived.Test.YtknafdcgpaejlaaDoorZXMI
import Derived.Test.YtknafdcgpaejlaaDoorZXRC
noncomputable section
namespace Go.Proofs.YtknafdcgpaejlaaDoor.mj
open Go.R
set_option maxRecDepth 10000
set_option linter.unusedVariables false
set_option linter.unusedSimpArgs false
open m1 m2 m3 m4 m5 m6 ma ml mb mc md mf mg mh mi
theorem reads6 {v : VInT} (ho : v.i.op = 6) (x : Int) : x ∈ aI v ↔ x ∈ v.args := by
 have z : alV v.i.op = true := by rw [ho]; rfl
 have A : (aD v.i.op).ra = false := by rw [ho]; rfl
 have E : (aD v.i.op).rb = false := by rw [ho]; rfl
 unfold aI
 rw [if_pos z, jB]
 unfold dS
 rw [A, E, if_neg (by simp), if_neg (by simp), if_neg (by omega), if_pos ho]
 simp
theorem ac_lst {c : VFnT} {b i : Nat} {l : List Int} (v : VF c) (hb : b < c.blocks.length) (hi : i < (dO c b).ins.length) (h : Lst l (ptS c b (i + 1))) : Lst (acV ((dO c b).ins.getD i default) l) (acI c b i) := by
 unfold acV
 have hv := cG (v.ins b hb i hi)
 split
 ·
  rename_i ho
  refine Lst.ext (Lst.addL (l := aI ((dO c b).ins.getD i default)) (Lst.minus (w := [((dO c b).ins.getD i default).i.a]) h) fun x hx => (hv.1 x hx).1) fun r => ?_
  rw [reads6 ho, List.mem_singleton]
  unfold acI
  exact ⟨fun h => ⟨ho, h⟩, fun h => h.2⟩
 rename_i ho
 exact Lst.nil fun r h => ho h.1
def acJ (c : VFnT) (b k r : Nat) : Prop := acK c b r ∨ ∃ j, j < k ∧ acI c b j r
theorem acj_zero {c : VFnT} {b : Nat} {o : List Int} (h : Lst o (acK c b)) : Lst o (acJ c b 0) := Lst.ext h fun r => ⟨.inl, fun h => h.elim id fun ⟨j, h, _⟩ => absurd h (Nat.not_lt_zero _)⟩
theorem acj_step {c : VFnT} {b k : Nat} {o l : List Int} (h : Lst o (acJ c b k)) (hl : Lst l (acI c b k)) : Lst (cv o l) (acJ c b (k + 1)) := Lst.ext (Lst.union h hl) fun r => by
 unfold acJ
 constructor
 ·
  rintro ((h | ⟨j, A, z⟩) | h)
  ·
   exact .inl h
  ·
   exact .inr ⟨j, by omega, z⟩
  exact .inr ⟨k, Nat.lt_succ_self _, h⟩
 rintro (h | ⟨j, A, z⟩)
 ·
  exact .inl (.inl h)
 rcases Nat.lt_or_ge j k with hj | hj
 ·
  exact .inl (.inr ⟨j, hj, z⟩)
 rw [show j = k by omega] at z; exact .inr z
theorem acj_all {c : VFnT} {b k : Nat} {o : List Int} (hk : (dO c b).ins.length = k) (h : Lst o (acJ c b k)) : Lst o (acK c (b + 1)) := Lst.ext h fun r => by
 unfold acJ acK
 constructor
 ·
  rintro (⟨b', j, E, z, A⟩ | ⟨j, E, z⟩)
  ·
   exact ⟨b', j, by omega, z, A⟩
  exact ⟨b, j, Nat.lt_succ_self _, by omega, z⟩
 rintro ⟨b', j, E, z, A⟩
 rcases Nat.lt_or_ge b' b with hb | hb
 ·
  exact .inl ⟨b', j, hb, z, A⟩
 have : b' = b := by omega
 subst this
 exact .inr ⟨j, by omega, A⟩
theorem ack_zero {c : VFnT} : Lst [] (acK c 0) := Lst.nil fun r ⟨b, _, z, _⟩ => Nat.not_lt_zero _ z
theorem ack_all {c : VFnT} {b : Nat} {o : List Int} (hb : b = c.blocks.length) (h : Lst o (acK c b)) : Lst o (acS c) := by subst hb; exact h
theorem aci_lt {c : VFnT} (v : VF c) {b i r : Nat} (hb : b < c.blocks.length) (hi : i < (dO c b).ins.length) (h : acI c b i r) : (r : Int) < c.regs := by
 rcases h with ⟨ho, ⟨z, _⟩ | z⟩
 ·
  exact pt_lt v hb z
 exact ((cG (v.ins b hb i hi)).1 _ ((reads6 ho _).2 z)).2
theorem ack_lt {c : VFnT} (v : VF c) {k r : Nat} (hk : k ≤ c.blocks.length) (h : acK c k r) : (r : Int) < c.regs := by
 obtain ⟨b, i, E, z, A⟩ := h
 exact aci_lt v (by omega) z A
theorem acj_lt {c : VFnT} (v : VF c) {b k r : Nat} (hb : b < c.blocks.length) (hk : k ≤ (dO c b).ins.length) (h : acJ c b k r) : (r : Int) < c.regs := by
 rcases h with h | ⟨j, A, z⟩
 ·
  exact ack_lt v (Nat.le_of_lt hb) h
 exact aci_lt v hb (by omega) z
theorem acV_len {v : VInT} {l : List Int} : (acV v l).length ≤ l.length + (3 + v.args.length) := by
 unfold acV
 split
 ·
  refine Nat.le_trans dE ?_
  have z : (iS l [v.i.a]).length ≤ l.length := List.length_filter_le _ _
  have A := h9 (v := v)
  omega
 exact Nat.zero_le _
set_option maxHeartbeats 1000000 in
theorem rlp_c (ex : FuncId) {z : Option Addr} {E : Nat} (c : VFnT) (block : Int) {F : Fz} {H : Heap} {R : List Fp} (hs : HS (.of H []) F H [] R) (dd : in64 c.params) (dk : in64 c.regs) (J : SR F (.slice z c.blocks.length E) c.blocks) (hblock : in64 block) (hT : TB 37 tabC F) (hins : ∀ j, (c.blocks.getD j default).ins.length ≤ 1073741824) : C Tryd.prog 1 (KT 60 ex 37 tabC) 30 [(.agg ⟨[(iI c.params), (iI c.regs), (.slice z c.blocks.length E)]⟩), (iI block)] H fun v H' => ∃ (al : Option Addr) (kl : Nat) (l : List (List Int)) (F' : Fz), Fz.le F F' ∧ HS (.of H []) F' H' [] R ∧ v = .slice al l.length kl ∧ SR F' (.slice al l.length kl) l ∧ (dQ c = true → 0 ≤ block → block < (c.blocks.length : Int) → PtF c block.toNat l) ∧ ((dQ c = false ∨ block < 0 ∨ (c.blocks.length : Int) ≤ block) → l = []) := by
 refine aJ Tryd.func30 rfl rfl ?_
 refine aq 1 rfl ?_
 refine aa ?_
 refine aC (be hs rfl rfl) rfl rfl ?_
 rintro _ H2 _ ⟨b1, rfl, (a1 : HS _ _ _ [[(b1, .cells [(iI c.params), (iI c.regs), (.slice z c.blocks.length E)] none false)]] _), _⟩
 refine wa (.slice none 0 0) rfl rfl rfl ?_
 refine ab 3 rfl ?_
 refine aa ?_
 let an : Value := (.agg ⟨[(iI c.params), (iI c.regs), (.slice z c.blocks.length E)]⟩)
 refine wRo 1 0 [(0, .o an)] 7 7 [] [(7, an)] (vA (qn 24 0 3 (HS.hc a1 (i := 0) rfl) rfl rfl rfl rfl) trivial) rfl fun _ => ?_
 refine az (am rfl rfl rfl) rfl rfl (m3.gE ex c (HS.call a1) (by omega) (by omega) J hT (by exact fun j => Nat.le_trans (hins j) (by omega))) ?_
 rintro _ H4 ⟨r4, F4, ag, T, rfl, rfl⟩
 replace T : HS _ _ _ [_] _ := HS.back a1 rfl T
 replace hT := hT.mono ag
 replace J := J.mono ag
 refine wRo 12 2 [(10, .o (.slice z c.blocks.length E))] 9 20 [] [(20, (.bool (((!(dQ c)) || (decide (block < 0))) || (decide ((c.blocks.length : Int) ≤ block)))))] (vA (fun (g1 : ((!(dQ c)) || (decide (block < 0))) = false) => (ql 22 2 (HS.hc T (i := 0) rfl) rfl rfl)) trivial) rfl fun _ => ?_
 refine ab 1 rfl ?_
 refine ap 1 2 (v := (((!(dQ c)) || (decide (block < 0))) || (decide ((c.blocks.length : Int) ≤ block)))) rfl rfl rfl rfl (fun ax => ?_) (fun ax => ?_)
 ·
  have c6 := ax
  try simp only [BS] at c6
  have hb := c6
  refine wR 1 [] 4 4 [] [(4, (.slice none 0 0))] trivial rfl fun _ => ?_
  refine ah ⟨.inr rfl, _, rfl, none, 0, ([] : List (List Int)), _, (ag), (HS.forget T), rfl, (SR.nil : SR F4 (.slice none 0 0) ([] : List (List Int))), (by first | exact fun h h2 h3 => absurd hb (by simp [h]; omega) | exact fun _ _ _ => ptf_of (bk.hy _ hbn) (by assumption)), (by first | exact fun _ => rfl | exact fun h => by rw [hv] at h; simp at h; omega)⟩
 have c6 := ax
 try simp only [BS] at c6
 have hb := c6
 have hv : dQ c = true := hb.1.1
 have vF := vF_of hv
 have hnb := vF.nb
 have hbn : block.toNat < c.blocks.length := by omega
 have hbl := hins block.toNat
 refine aa ?_
 refine wRo 1 0 [(0, .o an)] 22 22 [] [(22, an)] (vA (qn 24 0 3 (HS.hc T (i := 0) rfl) rfl rfl rfl rfl) trivial) rfl fun _ => ?_
 refine az (am rfl rfl rfl) rfl rfl (mi.rblocks_c ex c (HS.call T) (by omega) (by omega) J hT (by assumption)) ?_
 rintro _ H9 ⟨dv, d3, x9, V, Z, U, F9, ay, N, rfl, dn, a0, d2, d1⟩
 replace N : HS _ _ _ [_] _ := HS.back T rfl N
 replace hT := hT.mono ay
 replace J := J.mono ay
 refine wRo 5 2 [] 24 25 [5, 6, 21] [(6, (.slice V U.length Z))] trivial rfl fun _ => ?_
 refine ab 2 rfl ?_
 have bk := (by assumption : dQ c = true → BkF c _ U) hv
 have hlx := bk.lx
 have hly := bk.ly
 have hyl := Lst.len (bk.hy block.toNat hbn) vF.regs.1 (fun r h => ir vF h)
 refine aQ rfl ?_
 refine wfv (v := (.pointer (some ⟨b1, 2, none⟩))) (cg rfl rfl) ?_
 refine aB (v := (.slice z c.blocks.length E)) (id := .l b1) (bh (i := 2) rfl rfl (HS.hc N.log0 (i := 0) rfl) rfl rfl) rfl rfl (bg rfl) (kb rfl) ?_
 refine fm (iI block) rfl rfl rfl ?_
 refine wfv (v := (.pointer (some ⟨sB (.slice z c.blocks.length E), sO (.slice z c.blocks.length E) + block.toNat * Rp.sz BlkT, none⟩))) (br (α := BlkT) (j := block) rfl rfl rfl rfl (SR.sv J N.log0) (by omega) (by omega)) ?_
 obtain ⟨c7, b6, b3⟩ := Sv.at (SR.sv J N.log0) (aK (x := default) (show block.toNat < c.blocks.length from by omega))
 obtain ⟨a3, a7, rfl, ci, co, c0, c3, a9⟩ := b6
 refine aB (v := (.agg ⟨[(.slice a3 (c.blocks.getD block.toNat default).ins.length a7), (iI (c.blocks.getD block.toNat default).fin), (iI (c.blocks.getD block.toNat default).reg), (iI (c.blocks.getD block.toNat default).tgt), (iI (c.blocks.getD block.toNat default).els)]⟩)) (id := .l (sB (.slice z c.blocks.length E))) (bQ (i := 0) rfl rfl rfl b3 rfl rfl rfl) rfl rfl (bg rfl) (kb rfl) ?_
 refine fm (.slice V U.length Z) rfl rfl rfl ?_
 refine fm (iI block) rfl rfl rfl ?_
 refine wfv (v := (.pointer (some ⟨sB (.slice V U.length Z), sO (.slice V U.length Z) + block.toNat * Rp.sz (List Int), none⟩))) (br (α := (List Int)) (j := block) rfl rfl rfl rfl (SR.sv a0 N.log0) (by omega) (by omega)) ?_
 obtain ⟨c8, b7, b4⟩ := Sv.at (SR.sv a0 N.log0) (aK (x := default) (show block.toNat < U.length from by omega))
 obtain ⟨a4, a8, rfl, bb⟩ := b7
 refine aB (v := (.slice a4 (U.getD block.toNat default).length a8)) (id := .l (sB (.slice V U.length Z))) (bh (i := 0) rfl rfl b4 rfl rfl) rfl rfl (bg rfl) (kb rfl) ?_
 refine aX (W := []) (am rfl rfl rfl) rfl rfl rfl (mh.rpoints_c ex (c.blocks.getD block.toNat default) (U.getD block.toNat default) (HS.call N.log0) a9 (by omega) (by omega) (by omega) (by omega) bb hT (by exact ⟨_, rpo_out vF hbn hbl (bk.hy _ hbn)⟩)) (kb rfl) ?_
 rintro _ cc ⟨ar, a2, bl, ch, ds, b0, A, rfl, a6, c9⟩
 refine ⟨Wr.did A.log, fun b9 a5 => ?_⟩
 replace A := HS.back N.log0 rfl A
 replace A := HS.lg A N a5
 generalize ({ cc with log := b9 } : Heap) = c5 at A ⊢
 have A : HS _ _ _ [_, ch] _ := A
 refine fa (.slice ar bl.length a2) rfl rfl rfl ?_
 refine bU ?_
 refine aq 1 rfl ?_
 obtain ⟨dt, b2, ad, b8, dl⟩ := OS.frz a6 A (i := 1) rfl
 have ad : HS _ _ _ [_, []] _ := ad
 refine ah ⟨.inr rfl, _, rfl, ar, a2, bl, _, (fT (fT (fT (ag) ay) b0) b2), (HS.forget ad), rfl, b8, (by exact fun _ _ _ => ptf_of (bk.hy _ hbn) (by assumption)), (by exact fun h => by rw [hv] at h; simp at h; omega)⟩
set_option maxHeartbeats 2000000 in
theorem rac_c (ex : FuncId) {z : Option Addr} {A : Nat} (c : VFnT) {F : Fz} {H : Heap} {R : List Fp} (hs : HS (.of H []) F H [] R) (hl : in64 c.params) (hm : in64 c.regs) (E : SR F (.slice z c.blocks.length A) c.blocks) (hT : TB 37 tabC F) (hins : ∀ j, (c.blocks.getD j default).ins.length ≤ 1073741824) : C Tryd.prog 1 (KT 60 ex 37 tabC) 70 [(.agg ⟨[(iI c.params), (iI c.regs), (.slice z c.blocks.length A)]⟩)] H fun v H' => ∃ (ar : Option Addr) (kr : Nat) (r : List Int) (F' : Fz), Fz.le F F' ∧ HS (.of H []) F' H' [] R ∧ v = .slice ar r.length kr ∧ SR F' (.slice ar r.length kr) r ∧ (dQ c = true → Lst r (acS c)) ∧ (dQ c = false → r = []) := by
 refine aJ Tryd.func70 rfl rfl ?_
 refine aq 1 rfl ?_
 refine aa ?_
 refine aC (be hs rfl rfl) rfl rfl ?_
 rintro _ H2 _ ⟨b1, rfl, (e4 : HS _ _ _ [[(b1, .cells [(iI c.params), (iI c.regs), (.slice z c.blocks.length A)] none false)]] _), _⟩
 refine wa (.slice none 0 0) rfl rfl rfl ?_
 refine ab 2 rfl ?_
 refine wR 3 [] 1 0 [3] [(3, (.slice none 0 0))] trivial rfl fun _ => ?_
 refine wR 2 [] 1 0 [4] [(4, (iI 0))] trivial rfl fun _ => ?_
 let c3 : Fp := [(b1, .cells [(iI c.params), (iI c.regs), (.slice z c.blocks.length A)] none false)]
 refine aE (fun (mm : Nat) f H' => ∃ (o : List Int) (b : Nat) (ad : Option Addr) (al : Nat) (F' : Fz), Fz.le F F' ∧ HS (Base.of H []) F' H' [c3] R ∧ SR F' (.slice ad o.length al) o ∧ aH f [(1, (.pointer (some ⟨b1, 0, none⟩))), (2, (.slice none 0 0)), (3, (.slice ad o.length al)), (4, (iI (b : Int)))] ∧ mm = c.blocks.length - b ∧ (dQ c = false → o = []) ∧ (dQ c = true → Lst o (acK c b)) ∧ (dQ c = true → b ≤ c.blocks.length) ∧ (b ≤ 1000)) _ ⟨([] : List Int), 0, none, 0, _, fR, e4, (SR.nil : SR F (.slice none 0 0) ([] : List Int)), ⟨rfl, rfl, rfl, rfl, trivial⟩, rfl, (by exact fun _ => rfl), (by exact fun _ => ack_zero), (by exact fun _ => Nat.zero_le _), (by omega)⟩ ?_
 rintro hD f5 H5 ⟨o, b, ad, al, F5, b2, a1, ag, ds, rfl, hz, ho, hbb, hC⟩ e5
 refine au _ ds (fun _ => ?_)
 clear ds
 replace hT := hT.mono b2
 replace E := E.mono b2
 refine aq 2 rfl ?_
 refine wk_rcut 7 15 [] [(15, (.bool ((decide ((b : Int) < (c.blocks.length : Int))) && dQ c)))] (fun H' => ∃ F', Fz.le F5 F' ∧ HS (Base.of H []) F' H' [c3] R) ?_ ?_
 ·
  refine aa ?_
  refine wm (iI (b : Int)) rfl rfl rfl ?_
  refine bJ (v := (.pointer (some ⟨b1, 2, none⟩))) (cg rfl rfl) rfl rfl ?_
  refine bJ (v := (.slice z c.blocks.length A)) (bh (i := 2) rfl rfl (HS.hc a1 (i := 0) rfl) rfl rfl) rfl rfl ?_
  refine bJ (v := (iI (c.blocks.length : Int))) (iM (α := BlkT) rfl rfl (SR.sv E a1)) rfl rfl ?_
  refine bJ (v := (.bool (decide ((b : Int) < (c.blocks.length : Int))))) (ap_cmp rfl rfl rfl rfl) rfl rfl ?_
  refine wm (.bool (decide ((b : Int) < (c.blocks.length : Int)))) rfl rfl rfl ?_
  refine wo_gsT (v := (decide ((b : Int) < (c.blocks.length : Int)))) rfl rfl (fun g8 => ?_) (fun g8 => ?_)
  ·
   have c0 := g8
   try simp only [BS] at c0
   refine bJ (v := (.agg ⟨[(iI c.params), (iI c.regs), (.slice z c.blocks.length A)]⟩)) (bQ (i := 0) rfl rfl rfl (HS.hc a1 (i := 0) rfl) rfl rfl rfl) rfl rfl ?_
   refine fo rfl g8 ?_
   refine az (am rfl rfl rfl) rfl rfl (m3.gE ex c (HS.call a1) (by omega) (by omega) E hT (by exact fun j => Nat.le_trans (hins j) (by omega))) ?_
   rintro _ H9 ⟨r9, F9, e3, ch, rfl, rfl⟩
   replace ch : HS _ _ _ [_] _ := HS.back a1 rfl ch
   refine bJ (v := (.bool (dQ c))) (gO rfl g8 rfl) rfl rfl ?_
   refine gR ?_
   exact dD ⟨rfl, ⟨_, (fT fR e3), HS.sub ch (List.Sublist.refl _)⟩, (Lu rfl (Lu rfl (Lu rfl (Lu rfl (Lu rfl (Lu rfl (Lu rfl (Lu rfl (Lu rfl Lr))))))))), (agC (congrArg Value.bool (show dQ c = ((decide ((b : Int) < (c.blocks.length : Int))) && dQ c) by simp only [↓g8, BT])) agN)⟩
  have c0 := g8
  try simp only [BS] at c0
  refine gS rfl g8 rfl ?_
  refine bJ (v := (.bool false)) (j4 rfl g8 rfl) rfl rfl ?_
  refine gR ?_
  exact dD ⟨rfl, ⟨_, fR, HS.sub a1 (List.Sublist.refl _)⟩, (Lu rfl (Lu rfl (Lu rfl (Lu rfl (Lu rfl (Lu rfl (Lu rfl (Lu rfl (Lu rfl Lr))))))))), (agC (congrArg Value.bool (show false = ((decide ((b : Int) < (c.blocks.length : Int))) && dQ c) by simp only [↓g8, BT])) agN)⟩
 skip
 rintro g7 H7 ⟨F7, a9, b3⟩
 replace hT := hT.mono a9
 replace E := E.mono a9
 replace ag := ag.mono a9
 refine aq 1 rfl ?_
 refine ap 4 5 (v := ((decide ((b : Int) < (c.blocks.length : Int))) && dQ c)) rfl rfl rfl rfl (fun bk => ?_) (fun bk => ?_)
 ·
  have a8 := bk
  try simp only [BS] at a8
  have hcc := a8
  have hv : dQ c = true := hcc.2
  have vF := vF_of hv
  have hnb := vF.nb
  have hrg := vF.regs
  have hbn : b < c.blocks.length := by omega
  have hbl := hins b
  refine aa ?_
  let c4 : Value := (.agg ⟨[(iI c.params), (iI c.regs), (.slice z c.blocks.length A)]⟩)
  refine wRo 2 0 [(0, .o c4)] 18 19 [] [(18, c4), (19, (iI (b : Int)))] (vA (qn 24 0 3 (HS.hc b3 (i := 0) rfl) rfl rfl rfl rfl) trivial) rfl fun _ => ?_
  refine az (am rfl rfl rfl) rfl rfl (rlp_c ex c (b : Int) (HS.call b3) (by omega) (by omega) E (by omega) hT (by assumption)) ?_
  rintro _ hA ⟨a2, a7, T, ez, a4, b0, rfl, a5, hh, hg⟩
  replace b0 : HS _ _ _ [_] _ := HS.back b3 rfl b0
  replace ag := ag.mono a4
  refine wa (.slice a2 T.length a7) rfl rfl rfl ?_
  refine ab 2 rfl ?_
  have pf : PtF c b T := (by assumption : dQ c = true → 0 ≤ ((b : Nat) : Int) → ((b : Nat) : Int) < (c.blocks.length : Int) → PtF c ((b : Nat) : Int).toNat T) hv (by omega) (by omega)
  have hpl : (T).length = (c.blocks.getD b default).ins.length + 1 := pf.len
  refine wR 2 [] 1 0 [6] [(6, (iI 0))] trivial rfl fun _ => ?_
  refine aE (fun (mm : Nat) f H' => ∃ (o2 : List Int) (k : Nat) (V : Option Addr) (Z : Nat) (F' : Fz), Fz.le ez F' ∧ HS (Base.of H []) F' H' [c3] R ∧ SR F' (.slice V o2.length Z) o2 ∧ aH f [(1, (.pointer (some ⟨b1, 0, none⟩))), (2, (.slice none 0 0)), (3, (.slice V o2.length Z)), (4, (iI (b : Int))), (5, (.slice a2 T.length a7)), (6, (iI (k : Int))), (15, (.bool ((decide ((b : Int) < (c.blocks.length : Int))) && dQ c))), (18, c4), (19, (iI (b : Int))), (20, (.slice a2 T.length a7))] ∧ mm = (c.blocks.getD b default).ins.length - k ∧ (k ≤ (c.blocks.getD b default).ins.length) ∧ (Lst o2 (acJ c b k))) _ ⟨o, 0, ad, al, _, fR, b0, ag, ⟨rfl, rfl, rfl, rfl, rfl, rfl, rfl, rfl, rfl, rfl, trivial⟩, rfl, (by omega), (by exact acj_zero (ho hv))⟩ ?_
  rintro hr hB e0 ⟨o2, k, V, Z, ht, ay, J, an, b9, rfl, hk, cc⟩ d4
  refine au _ b9 (fun _ => ?_)
  clear b9
  replace hT := (hT.mono a4).mono ay
  replace E := (E.mono a4).mono ay
  replace a5 := a5.mono ay
  refine aq 2 rfl ?_
  obtain ⟨b8, ci⟩ := Sv.view (SR.sv E J)
  obtain ⟨e6, fd, fi, f0, g2⟩ := BlkT.fx (ci b)
  refine wR 1 [(2, .o (.slice z c.blocks.length A)), (6, .o (.slice (cA (b8 b) 0) (c.blocks.getD b default).ins.length (cK (b8 b) 0)))] 21 29 [] [(29, (.bool (decide ((k : Int) < ((c.blocks.getD b default).ins.length : Int)))))] (vA (ql 22 2 (HS.hc J (i := 0) rfl) rfl rfl) (vA (Sv.ix (j := (b : Int)) (SR.sv E J) (by omega) (by omega)) (vA (ql 46 0 (BlkT.vw (ci b) (by omega)) rfl rfl) trivial))) rfl fun _ => ?_
  refine ap 3 5 (v := (decide ((k : Int) < ((c.blocks.getD b default).ins.length : Int)))) rfl rfl rfl rfl (fun bl => ?_) (fun bl => ?_)
  ·
   have b7 := bl
   try simp only [BS] at b7
   have hkn : k < (c.blocks.getD b default).ins.length := by omega
   have hol := Lst.len cc hrg.1 (fun r h => acj_lt vF hbn hk h)
   have hal : (((T).getD (k + 1) default).length : Int) ≤ c.regs := Lst.len (pf.pt (k + 1) hkn) hrg.1 (fun r h => pt_lt vF hbn h)
   have hj : (((T).getD (((k : Nat) : Int) + 1).toNat default).length : Int) ≤ c.regs := hal
   have hn : ((c.blocks.getD b default).ins.getD k default).args.length ≤ 6 := (cG (vF.ins b hbn k hkn)).2.2
   have hcl := acV_len (v := ((c.blocks.getD b default).ins.getD k default)) (l := (T).getD (((k : Nat) : Int) + 1).toNat default)
   refine aQ rfl ?_
   refine fm (.slice V o2.length Z) rfl rfl rfl ?_
   refine wfv (v := (.pointer (some ⟨b1, 2, none⟩))) (cg rfl rfl) ?_
   refine aB (v := (.slice z c.blocks.length A)) (id := .l b1) (bh (i := 2) rfl rfl (HS.hc J.log0 (i := 0) rfl) rfl rfl) rfl rfl (bg rfl) (kb rfl) ?_
   refine fm (iI (b : Int)) rfl rfl rfl ?_
   refine wfv (v := (.pointer (some ⟨sB (.slice z c.blocks.length A), sO (.slice z c.blocks.length A) + b * Rp.sz BlkT, none⟩))) (br (α := BlkT) (j := (b : Int)) rfl rfl rfl rfl (SR.sv E J.log0) (by omega) (by omega)) ?_
   refine wfv (v := (.pointer (some ⟨sB (.slice z c.blocks.length A), sO (.slice z c.blocks.length A) + b * Rp.sz BlkT, none⟩))) (cg rfl rfl) ?_
   obtain ⟨he, d2, dv⟩ := Sv.at (SR.sv E J.log0) (aK (x := default) (show b < c.blocks.length from by omega))
   obtain ⟨av, ax, rfl, f1, f2, f3, f4, b4⟩ := d2
   refine aB (v := (.slice av (c.blocks.getD b default).ins.length ax)) (id := .l (sB (.slice z c.blocks.length A))) (bh (i := 0) rfl rfl dv rfl rfl) rfl rfl (bg rfl) (kb rfl) ?_
   refine fm (iI (k : Int)) rfl rfl rfl ?_
   refine wfv (v := (.pointer (some ⟨sB (.slice av (c.blocks.getD b default).ins.length ax), sO (.slice av (c.blocks.getD b default).ins.length ax) + k * Rp.sz VInT, none⟩))) (br (α := VInT) (j := (k : Int)) rfl rfl rfl rfl (SR.sv b4 J.log0) (by omega) (by omega)) ?_
   obtain ⟨hf, d3, d1⟩ := Sv.at (SR.sv b4 J.log0) (aK (x := default) (show k < (c.blocks.getD b default).ins.length from by omega))
   obtain ⟨c5, dl, rfl, f7, f9, go, g0, g1, dn⟩ := d3
   refine aB (v := (.agg ⟨[(iI ((c.blocks.getD b default).ins.getD k default).i.op), (iI ((c.blocks.getD b default).ins.getD k default).i.a), (iI ((c.blocks.getD b default).ins.getD k default).i.b), (iI ((c.blocks.getD b default).ins.getD k default).i.c), (iI ((c.blocks.getD b default).ins.getD k default).i.n), (.slice c5 ((c.blocks.getD b default).ins.getD k default).args.length dl)]⟩)) (id := .l (sB (.slice av (c.blocks.getD b default).ins.length ax))) (bQ (i := 0) rfl rfl rfl d1 rfl rfl rfl) rfl rfl (bg rfl) (kb rfl) ?_
   refine fm (.slice a2 T.length a7) rfl rfl rfl ?_
   refine fm (iI (k : Int)) rfl rfl rfl ?_
   refine aX (W := []) (am rfl rfl rfl) rfl rfl rfl (mh.after_c ex T (k : Int) (HS.call J.log0) a5 (by omega) hT (by omega)) (⟨.inl rfl, ⟨.inl rfl, ⟨.inr List.not_mem_nil, ⟨.inr trivial, ⟨.inr trivial, ⟨.inr List.not_mem_nil, ⟨.inr trivial, ⟨.inr trivial, ⟨.inr trivial, ⟨.inr List.not_mem_nil, ⟨.inr trivial, ⟨.inr trivial, trivial⟩⟩⟩⟩⟩⟩⟩⟩⟩⟩⟩⟩) ?_
   rintro _ _ ⟨g9, hp, hE, rfl, rfl, c9, rfl⟩
   refine ⟨fun b hb => absurd hb List.not_mem_nil, fun em c6 => ?_⟩
   have a6 := HS.lg J.log0 J c6
   generalize ({ { e0 with log := [] } with log := em } : Heap) = g4 at a6 ⊢
   refine aX (W := []) (am rfl rfl rfl) rfl rfl rfl (mh.acall_c ex ((c.blocks.getD b default).ins.getD k default) (T.getD ((k : Int) + 1).toNat default) (HS.call a6.log0) (by omega) (by omega) (by omega) (by omega) (by omega) dn c9 hT (by omega) (by omega)) (kb rfl) ?_
   rintro _ e1 ⟨ha, hq, hF, hu, bz, N, rfl, dd, rfl⟩
   refine ⟨Wr.did N.log, fun es c7 => ?_⟩
   replace N := HS.back a6.log0 rfl N
   replace N := HS.lg N a6 c7
   generalize ({ e1 with log := es } : Heap) = g5 at N ⊢
   have N : HS _ _ _ [_] _ := N
   replace hT := hT.mono bz
   replace an := an.mono bz
   refine aX (W := []) (am rfl rfl rfl) rfl rfl rfl (ma.gY ex o2 (acV ((c.blocks.getD b default).ins.getD k default) (T.getD ((k : Int) + 1).toNat default)) (HS.call N.log0) an dd hT (by omega)) (kb rfl) ?_
   rintro _ e2 ⟨b6, co, hG, hw, dt, U, rfl, dk, rfl⟩
   refine ⟨Wr.did U.log, fun et c8 => ?_⟩
   replace U := HS.back N.log0 rfl U
   replace U := HS.lg U N c8
   generalize ({ e2 with log := et } : Heap) = g6 at U ⊢
   have U : HS _ _ _ [_] _ := U
   refine fa (.slice b6 (cv o2 (acV ((c.blocks.getD b default).ins.getD k default) (T.getD ((k : Int) + 1).toNat default))).length co) rfl rfl rfl ?_
   refine bU ?_
   refine aq 2 rfl ?_
   refine wR 1 [] 30 31 [6] [(6, (iI ((k : Int) + 1)))] (vA (vi (n := (k : Int) + 1) (by omega)) trivial) rfl fun _ => ?_
   refine d4 _ _ _ ?_ ⟨cv o2 (acV ((c.blocks.getD b default).ins.getD k default) (T.getD ((k : Int) + 1).toNat default)), k + 1, b6, co, _, (fT (fT (ay) bz) dt), U, dk, ⟨rfl, rfl, rfl, rfl, rfl, rfl, rfl, rfl, rfl, rfl, trivial⟩, rfl, (by omega), (by exact acj_step cc (ac_lst vF hbn hkn (pf.pt (k + 1) hkn)))⟩
   omega
  have b7 := bl
  try simp only [BS] at b7
  refine wR 1 [] 16 17 [4] [(4, (iI ((b : Int) + 1)))] (vA (vi (n := (b : Int) + 1) (by omega)) trivial) rfl fun _ => ?_
  refine e5 _ _ _ ?_ ⟨o2, b + 1, V, Z, _, (fT (fT (fT (b2) a9) a4) ay), J, an, ⟨rfl, rfl, rfl, rfl, trivial⟩, rfl, (by exact fun h => absurd (hv.symm.trans h) (by decide)), (by exact fun _ => acj_all (show (c.blocks.getD b default).ins.length = k by omega) cc), (by exact fun _ => hbn), (by omega)⟩
  omega
 have a8 := bk
 try simp only [BS] at a8
 have hex : dQ c = true → c.blocks.length ≤ b := fun h => by (have hc := a8; simp only [h] at hc; simp at hc; omega)
 refine wR 1 [] 2 2 [47] [(2, (.slice ad o.length al))] trivial rfl fun _ => ?_
 refine ah ⟨.inr rfl, _, rfl, ad, al, o, _, (fT (b2) a9), (HS.forget b3), rfl, ag, (by exact fun h => ack_all (by have h2 := hbb h; have h3 := hex h; omega) (ho h)), (by assumption)⟩
end Go.Proofs.YtknafdcgpaejlaaDoor.mj
