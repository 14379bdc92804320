/-
 Arguments that are structs: their data laid into the evaluator's heap. No condition beyond those that each statement names.
-/
import Derived.Test.YtknafdcgpaejlaaDoorZXRD
import Derived.Test.YtknafdcgpaejlaaDoorZXM1
import Derived.Test.YtknafdcgpaejlaaDoorZXXA
import Derived.KernelRfl
noncomputable section
namespace Go.Proofs.YtknafdcgpaejlaaDoor.me
open Go.R Go.Proofs.YtknafdcgpaejlaaDoor.m1 Go.Proofs.YtknafdcgpaejlaaDoor.xa
set_option linter.unusedVariables false
set_option linter.unusedSimpArgs false
theorem u2 : Tryd.prog.underlying 2 = some (.int .i64) := by kernel_rfl
theorem u3 : Tryd.prog.underlying 3 = some (.int .i64) := by kernel_rfl
theorem u4 : Tryd.prog.underlying 4 = some .bool := by kernel_rfl
theorem u25 : Tryd.prog.underlying 25 = some (.slice 3) := by kernel_rfl
theorem u37 : Tryd.prog.underlying 37 = some (.slice 57) := by kernel_rfl
noncomputable def fs50 : Array Field := match Tryd.prog.underlying 50 with | some (.struct fs) => fs | _ => #[]
theorem u50 : Tryd.prog.underlying 50 = some (.struct fs50) := by kernel_rfl
def bInsT {X : Type} (d : DataW X) (x : InsT) : Prop := ∃ d0 d1 d2 d3 d4, d = .agg [d0, d1, d2, d3, d4] ∧ (fun _ => in64) d0 x.op ∧ (fun _ => in64) d1 x.a ∧ (fun _ => in64) d2 x.b ∧ (fun _ => in64) d3 x.c ∧ (fun _ => in64) d4 x.n
theorem em_InsT {X : Type} {enc : TypeId × Value → X} {w : World} (h0 : 0 < w.heap.size) : EmC enc Tryd.prog w 50 InsT bInsT := fun {μ H n cs x} h hd => by
 obtain ⟨hl, m, ds, hx, hdl, hf⟩ := iE u50 hd
 have hl : cs.length = 5 := hl.trans (by kernel_rfl)
 have hdl : ds.length = 5 := hdl.trans (by kernel_rfl)
 obtain ⟨Z, d0, f0⟩ := hf 0 3 0 1 (by kernel_rfl) (by kernel_rfl)
 obtain ⟨x1, d1, f1⟩ := hf 1 3 1 1 (by kernel_rfl) (by kernel_rfl)
 obtain ⟨x2, d2, f2⟩ := hf 2 3 2 1 (by kernel_rfl) (by kernel_rfl)
 obtain ⟨x3, d3, f3⟩ := hf 3 3 3 1 (by kernel_rfl) (by kernel_rfl)
 obtain ⟨x4, d4, f4⟩ := hf 4 2 4 1 (by kernel_rfl) (by kernel_rfl)
 have hds : ds = [Z.1, x1.1, x2.1, x3.1, x4.1] := List.ext_getElem? fun i => match i with | 0 => f0 | 1 => f1 | 2 => f2 | 3 => f3 | 4 => f4 | i + 5 => List.getElem?_eq_none (by omega)
 obtain ⟨m0, H0, c0, y0, e0, l0, r0, N, g0⟩ := (ff u3) h d0
 obtain ⟨m1, H1, c1, y1, e1, J, r1, T, g1⟩ := (ff u3) e0 d1
 obtain ⟨m2, H2, c2, y2, e2, E, r2, U, g2⟩ := (ff u3) e1 d2
 obtain ⟨m3, H3, c3, y3, e3, A, r3, V, g3⟩ := (ff u3) e2 d3
 obtain ⟨m4, H4, c4, y4, e4, z, r4, p4, g4⟩ := (ff u2) e3 d4
 replace N := Rp.mono (J.trans (E.trans (A.trans z))).heap N
 replace T := Rp.mono (E.trans (A.trans z)).heap T
 replace U := Rp.mono (A.trans z).heap U
 replace V := Rp.mono z.heap V
 obtain ⟨rfl, w0⟩ := N
 obtain ⟨rfl, w1⟩ := T
 obtain ⟨rfl, w2⟩ := U
 obtain ⟨rfl, w3⟩ := V
 obtain ⟨rfl, w4⟩ := p4
 exact ⟨_, _, _, ⟨y0, y1, y2, y3, y4⟩, e4, (l0.trans (J.trans (E.trans (A.trans z)))), (LRel.put (off := 0) (sz := 1) (r0.mono (J.trans (E.trans (A.trans z))).emb) (LRel.put (off := 1) (sz := 1) (r1.mono (E.trans (A.trans z)).emb) (LRel.put (off := 2) (sz := 1) (r2.mono (A.trans z).emb) (LRel.put (off := 3) (sz := 1) (r3.mono z.emb) (LRel.put (off := 4) (sz := 1) r4 (LRel.stop hl)))))), ⟨rfl, w0, w1, w2, w3, w4⟩, Z.1, x1.1, x2.1, x3.1, x4.1, by rw [hx, hds], g0, g1, g2, g3, g4⟩
noncomputable def fs52 : Array Field := match Tryd.prog.underlying 52 with | some (.struct fs) => fs | _ => #[]
theorem u52 : Tryd.prog.underlying 52 = some (.struct fs52) := by kernel_rfl
def bVInT {X : Type} (d : DataW X) (x : VInT) : Prop := ∃ d0 d1, d = .agg [d0, d1] ∧ bInsT d0 x.i ∧ (LB (fun _ => in64)) d1 x.args
theorem em_VInT {X : Type} {enc : TypeId × Value → X} {w : World} (h0 : 0 < w.heap.size) : EmC enc Tryd.prog w 52 VInT bVInT := fun {μ H n cs x} h hd => by
 obtain ⟨hl, m, ds, hx, hdl, hf⟩ := iE u52 hd
 have hl : cs.length = 6 := hl.trans (by kernel_rfl)
 have hdl : ds.length = 2 := hdl.trans (by kernel_rfl)
 obtain ⟨V, d0, f0⟩ := hf 0 50 0 5 (by kernel_rfl) (by kernel_rfl)
 obtain ⟨Z, d1, f1⟩ := hf 1 25 5 1 (by kernel_rfl) (by kernel_rfl)
 have hds : ds = [V.1, Z.1] := List.ext_getElem? fun i => match i with | 0 => f0 | 1 => f1 | i + 2 => List.getElem?_eq_none (by omega)
 obtain ⟨m0, H0, c0, y0, e0, l0, r0, A, g0⟩ := (em_InsT h0) h d0
 obtain ⟨m1, H1, c1, y1, e1, z, r1, p1, g1⟩ := (emC_slice (α := Int) (B := (fun _ => in64)) h0 u25 (by kernel_rfl) (by decide) (ff u3)) e0 d1
 replace A := Rp.mono z.heap A
 obtain ⟨rfl, E, J, N, T, U⟩ := A
 obtain ⟨a1, k1, rfl, w1⟩ := p1
 exact ⟨_, _, _, ⟨y0, y1⟩, e1, (l0.trans z), (LRel.put (off := 0) (sz := 5) (r0.mono z.emb) (LRel.put (off := 5) (sz := 1) r1 (LRel.stop hl))), ⟨a1, k1, rfl, E, J, N, T, U, w1⟩, V.1, Z.1, by rw [hx, hds], g0, g1⟩
noncomputable def fs57 : Array Field := match Tryd.prog.underlying 57 with | some (.struct fs) => fs | _ => #[]
theorem u57 : Tryd.prog.underlying 57 = some (.struct fs57) := by kernel_rfl
def bLocT {X : Type} (d : DataW X) (x : LocT) : Prop := ∃ d0 d1, d = .agg [d0, d1] ∧ (fun _ _ => True) d0 x.inS ∧ (fun _ => in64) d1 x.idx
theorem em_LocT {X : Type} {enc : TypeId × Value → X} {w : World} (h0 : 0 < w.heap.size) : EmC enc Tryd.prog w 57 LocT bLocT := fun {μ H n cs x} h hd => by
 obtain ⟨hl, m, ds, hx, hdl, hf⟩ := iE u57 hd
 have hl : cs.length = 2 := hl.trans (by kernel_rfl)
 have hdl : ds.length = 2 := hdl.trans (by kernel_rfl)
 obtain ⟨E, d0, V⟩ := hf 0 4 0 1 (by kernel_rfl) (by kernel_rfl)
 obtain ⟨J, N, Z⟩ := hf 1 3 1 1 (by kernel_rfl) (by kernel_rfl)
 have hds : ds = [E.1, J.1] := List.ext_getElem? fun i => match i with | 0 => V | 1 => Z | i + 2 => List.getElem?_eq_none (by omega)
 obtain ⟨m0, H0, c0, y0, T, l0, r0, A, g0⟩ := (emC_bool u4) h d0
 obtain ⟨m1, H1, c1, y1, U, z, r1, p1, g1⟩ := (ff u3) T N
 replace A := Rp.mono z.heap A
 obtain rfl := A
 obtain ⟨rfl, w1⟩ := p1
 exact ⟨_, _, _, ⟨y0, y1⟩, U, (l0.trans z), (LRel.put (off := 0) (sz := 1) (r0.mono z.emb) (LRel.put (off := 1) (sz := 1) r1 (LRel.stop hl))), ⟨rfl, w1⟩, E.1, J.1, by rw [hx, hds], g0, g1⟩
theorem es_LocT {X : Type} {enc : TypeId × Value → X} {w : World} (h0 : 0 < w.heap.size) : EmC enc Tryd.prog w 37 (List LocT) (LB bLocT) := (emC_slice (α := LocT) (B := bLocT) h0 u37 (by kernel_rfl) (by decide) (em_LocT h0))
end Go.Proofs.YtknafdcgpaejlaaDoor.me
