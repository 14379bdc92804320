/-
  The laws of chapter 2 on offsets, respaced and joined texts, each by a symbolic run over the functions that it calls. No condition.
-/
import Derived.Test.YtcakpkdeojhacaaL3
noncomputable section
namespace Go.Proofs.Ytcakpkdeojhacaa.l4
open Go.R
set_option maxRecDepth 10000
set_option linter.unusedVariables false
theorem ql {H : Heap} {b o : Nat} {cs : List Value} {w : Value} (t : TypeId) (i : Nat) (hc : HC H.get b o cs) (ha : aggOf Try.prog t = some false) (hv : cs[i]? = some w) : LDv Try.prog H t (.pointer (some ⟨b, o + i, none⟩)) w := ld1 hc ha hv
theorem qn {H : Heap} {b o : Nat} {cs l : List Value} (t : TypeId) (i n : Nat) (hc : HC H.get b o cs) (ha : aggOf Try.prog t = some true) (hs : szOf Try.prog t = some n) (hn : Nat.ble (i + n) cs.length = true) (hl : takeL (dropL cs i) n = l) : LDv Try.prog H t (.pointer (some ⟨b, o + i, none⟩)) (.agg ⟨l⟩) := ldN hc ha hs hn hl
open l1 l3
theorem ex_c (ex : FuncId) (H : Heap) : C Try.prog 0 (KX ex) ex [] H fun v H' => ∃ (r : Bool), H' = H ∧ v = .bool r ∧ r = true :=
  c_known (by show (bif Nat.beq ex ex then some (Value.bool true) else none) = _; rw [Nat.beq_refl]; rfl) ⟨true, rfl, rfl, rfl⟩
theorem ex_c_q (ex : FuncId) (H : Heap) : C Try.prog 0 (KX ex) ex [] H fun v H' => v = .bool true ∧ H' = H := cq (ex_c ex H) (by rintro _ _ ⟨_, rfl, rfl, rfl⟩; exact ⟨rfl, rfl⟩)
theorem pick_rng {n m : Int} (hm : 0 < m) : 0 ≤ pickV n m ∧ pickV n m < m := by
  have h1 : -m < n.tmod m := Int.lt_tmod_of_pos n hm
  have h2 : n.tmod m < m := Int.tmod_lt_of_pos n hm
  unfold pickV
  by_cases hc : n.tmod m < 0
  · simp only [decide_eq_true hc, cond_true]; omega
  · simp only [decide_eq_false hc, cond_false]; omega
theorem getD_all {α : Type} {p : α → Prop} {d : α} : ∀ {l : List α} {n : Nat}, (∀ x ∈ l, p x) → p d → p (l.getD n d)
  | [], _, _, hd => by simpa using hd
  | x :: l, 0, h, _ => h x (by simp)
  | x :: l, n + 1, h, hd => by simpa using getD_all (l := l) (n := n) (fun y hy => h y (by simp [hy])) hd

def allP : List Str := [⟨[97]⟩, ⟨[98, 95, 49]⟩, ⟨[32]⟩, ⟨[9]⟩, ⟨[10]⟩, ⟨[35]⟩, ⟨[62]⟩, ⟨[62, 62]⟩, ⟨[60]⟩, ⟨[61]⟩, ⟨[33]⟩, ⟨[43]⟩, ⟨[45]⟩, ⟨[48]⟩, ⟨[55]⟩, ⟨[48, 55]⟩, ⟨[57, 50, 50, 51, 51, 55, 50, 48, 51, 54, 56, 53, 52, 55, 55, 53, 56, 48, 56]⟩, ⟨[57, 50, 50, 51, 51, 55, 50, 48, 51, 54, 56, 53, 52, 55, 55, 53, 56, 48, 57]⟩, ⟨[48, 120]⟩, ⟨[38]⟩, ⟨[40]⟩, ⟨[91]⟩, ⟨[59]⟩, ⟨[0]⟩, ⟨[195, 169]⟩, ⟨[97, 98, 99, 100, 101, 102, 103, 104, 105, 106, 107, 108, 109, 110, 111, 112]⟩, ⟨[97, 98, 99, 100, 101, 102, 103, 104, 105, 106, 107, 108, 109, 110, 111, 112, 113]⟩, ⟨[37]⟩, ⟨[36]⟩, ⟨[13]⟩]
theorem allP_le {k : Nat} : (allP.getD k default).b.length ≤ 19 := getD_all (p := fun x : Str => x.b.length ≤ 19) (by decide) (by decide)

theorem pieces_c (ex : FuncId) {a_l : Option Addr} {k_l : Nat} (l : List Int) {F : Fz} {H : Heap} {R : List Fp} (hs : HS (.of H []) F H [] R) (hl : SR F (.slice a_l l.length k_l) l) : C Try.prog 0 (KX ex) 24 [(.slice a_l l.length k_l)] H fun v H' => ∃ (r : List UInt8) (F' : Fz), Fz.le F F' ∧ HS (.of H []) F' H' [] R ∧ v = .string ⟨⟨r⟩⟩ ∧ (r.length ≤ 570) := by
  refine c_enter Try.func24 rfl rfl ?_
  refine wk_foc 1 rfl ?_
  refine wr 2 [] 2 2 [] [(2, (.string ⟨⟨[]⟩⟩))] trivial (by kernel_rfl) rfl fun gg1 => ?_
  refine wk_region ?_
  refine wo_rs (rs_lit (α := Str) (ps := [(0, (.string ⟨⟨[97]⟩⟩)), (1, (.string ⟨⟨[98, 95, 49]⟩⟩)), (2, (.string ⟨⟨[32]⟩⟩)), (3, (.string ⟨⟨[9]⟩⟩)), (4, (.string ⟨⟨[10]⟩⟩)), (5, (.string ⟨⟨[35]⟩⟩)), (6, (.string ⟨⟨[62]⟩⟩)), (7, (.string ⟨⟨[62, 62]⟩⟩)), (8, (.string ⟨⟨[60]⟩⟩)), (9, (.string ⟨⟨[61]⟩⟩)), (10, (.string ⟨⟨[33]⟩⟩)), (11, (.string ⟨⟨[43]⟩⟩)), (12, (.string ⟨⟨[45]⟩⟩)), (13, (.string ⟨⟨[48]⟩⟩)), (14, (.string ⟨⟨[55]⟩⟩)), (15, (.string ⟨⟨[48, 55]⟩⟩)), (16, (.string ⟨⟨[57, 50, 50, 51, 51, 55, 50, 48, 51, 54, 56, 53, 52, 55, 55, 53, 56, 48, 56]⟩⟩)), (17, (.string ⟨⟨[57, 50, 50, 51, 51, 55, 50, 48, 51, 54, 56, 53, 52, 55, 55, 53, 56, 48, 57]⟩⟩)), (18, (.string ⟨⟨[48, 120]⟩⟩)), (19, (.string ⟨⟨[38]⟩⟩)), (20, (.string ⟨⟨[40]⟩⟩)), (21, (.string ⟨⟨[91]⟩⟩)), (22, (.string ⟨⟨[59]⟩⟩)), (23, (.string ⟨⟨[0]⟩⟩)), (24, (.string ⟨⟨[195, 169]⟩⟩)), (25, (.string ⟨⟨[97, 98, 99, 100, 101, 102, 103, 104, 105, 106, 107, 108, 109, 110, 111, 112]⟩⟩)), (26, (.string ⟨⟨[97, 98, 99, 100, 101, 102, 103, 104, 105, 106, 107, 108, 109, 110, 111, 112, 113]⟩⟩)), (27, (.string ⟨⟨[37]⟩⟩)), (28, (.string ⟨⟨[36]⟩⟩)), (29, (.string ⟨⟨[13]⟩⟩))]) (cells := [(.string ⟨⟨[97]⟩⟩), (.string ⟨⟨[98, 95, 49]⟩⟩), (.string ⟨⟨[32]⟩⟩), (.string ⟨⟨[9]⟩⟩), (.string ⟨⟨[10]⟩⟩), (.string ⟨⟨[35]⟩⟩), (.string ⟨⟨[62]⟩⟩), (.string ⟨⟨[62, 62]⟩⟩), (.string ⟨⟨[60]⟩⟩), (.string ⟨⟨[61]⟩⟩), (.string ⟨⟨[33]⟩⟩), (.string ⟨⟨[43]⟩⟩), (.string ⟨⟨[45]⟩⟩), (.string ⟨⟨[48]⟩⟩), (.string ⟨⟨[55]⟩⟩), (.string ⟨⟨[48, 55]⟩⟩), (.string ⟨⟨[57, 50, 50, 51, 51, 55, 50, 48, 51, 54, 56, 53, 52, 55, 55, 53, 56, 48, 56]⟩⟩), (.string ⟨⟨[57, 50, 50, 51, 51, 55, 50, 48, 51, 54, 56, 53, 52, 55, 55, 53, 56, 48, 57]⟩⟩), (.string ⟨⟨[48, 120]⟩⟩), (.string ⟨⟨[38]⟩⟩), (.string ⟨⟨[40]⟩⟩), (.string ⟨⟨[91]⟩⟩), (.string ⟨⟨[59]⟩⟩), (.string ⟨⟨[0]⟩⟩), (.string ⟨⟨[195, 169]⟩⟩), (.string ⟨⟨[97, 98, 99, 100, 101, 102, 103, 104, 105, 106, 107, 108, 109, 110, 111, 112]⟩⟩), (.string ⟨⟨[97, 98, 99, 100, 101, 102, 103, 104, 105, 106, 107, 108, 109, 110, 111, 112, 113]⟩⟩), (.string ⟨⟨[37]⟩⟩), (.string ⟨⟨[36]⟩⟩), (.string ⟨⟨[13]⟩⟩)]) ([⟨[97]⟩, ⟨[98, 95, 49]⟩, ⟨[32]⟩, ⟨[9]⟩, ⟨[10]⟩, ⟨[35]⟩, ⟨[62]⟩, ⟨[62, 62]⟩, ⟨[60]⟩, ⟨[61]⟩, ⟨[33]⟩, ⟨[43]⟩, ⟨[45]⟩, ⟨[48]⟩, ⟨[55]⟩, ⟨[48, 55]⟩, ⟨[57, 50, 50, 51, 51, 55, 50, 48, 51, 54, 56, 53, 52, 55, 55, 53, 56, 48, 56]⟩, ⟨[57, 50, 50, 51, 51, 55, 50, 48, 51, 54, 56, 53, 52, 55, 55, 53, 56, 48, 57]⟩, ⟨[48, 120]⟩, ⟨[38]⟩, ⟨[40]⟩, ⟨[91]⟩, ⟨[59]⟩, ⟨[0]⟩, ⟨[195, 169]⟩, ⟨[97, 98, 99, 100, 101, 102, 103, 104, 105, 106, 107, 108, 109, 110, 111, 112]⟩, ⟨[97, 98, 99, 100, 101, 102, 103, 104, 105, 106, 107, 108, 109, 110, 111, 112, 113]⟩, ⟨[37]⟩, ⟨[36]⟩, ⟨[13]⟩] : List Str) hs rfl rfl rfl (by kernel_rfl) ⟨[(.string ⟨⟨[97]⟩⟩)], [(.string ⟨⟨[98, 95, 49]⟩⟩), (.string ⟨⟨[32]⟩⟩), (.string ⟨⟨[9]⟩⟩), (.string ⟨⟨[10]⟩⟩), (.string ⟨⟨[35]⟩⟩), (.string ⟨⟨[62]⟩⟩), (.string ⟨⟨[62, 62]⟩⟩), (.string ⟨⟨[60]⟩⟩), (.string ⟨⟨[61]⟩⟩), (.string ⟨⟨[33]⟩⟩), (.string ⟨⟨[43]⟩⟩), (.string ⟨⟨[45]⟩⟩), (.string ⟨⟨[48]⟩⟩), (.string ⟨⟨[55]⟩⟩), (.string ⟨⟨[48, 55]⟩⟩), (.string ⟨⟨[57, 50, 50, 51, 51, 55, 50, 48, 51, 54, 56, 53, 52, 55, 55, 53, 56, 48, 56]⟩⟩), (.string ⟨⟨[57, 50, 50, 51, 51, 55, 50, 48, 51, 54, 56, 53, 52, 55, 55, 53, 56, 48, 57]⟩⟩), (.string ⟨⟨[48, 120]⟩⟩), (.string ⟨⟨[38]⟩⟩), (.string ⟨⟨[40]⟩⟩), (.string ⟨⟨[91]⟩⟩), (.string ⟨⟨[59]⟩⟩), (.string ⟨⟨[0]⟩⟩), (.string ⟨⟨[195, 169]⟩⟩), (.string ⟨⟨[97, 98, 99, 100, 101, 102, 103, 104, 105, 106, 107, 108, 109, 110, 111, 112]⟩⟩), (.string ⟨⟨[97, 98, 99, 100, 101, 102, 103, 104, 105, 106, 107, 108, 109, 110, 111, 112, 113]⟩⟩), (.string ⟨⟨[37]⟩⟩), (.string ⟨⟨[36]⟩⟩), (.string ⟨⟨[13]⟩⟩)], rfl, rfl, ⟨[(.string ⟨⟨[98, 95, 49]⟩⟩)], [(.string ⟨⟨[32]⟩⟩), (.string ⟨⟨[9]⟩⟩), (.string ⟨⟨[10]⟩⟩), (.string ⟨⟨[35]⟩⟩), (.string ⟨⟨[62]⟩⟩), (.string ⟨⟨[62, 62]⟩⟩), (.string ⟨⟨[60]⟩⟩), (.string ⟨⟨[61]⟩⟩), (.string ⟨⟨[33]⟩⟩), (.string ⟨⟨[43]⟩⟩), (.string ⟨⟨[45]⟩⟩), (.string ⟨⟨[48]⟩⟩), (.string ⟨⟨[55]⟩⟩), (.string ⟨⟨[48, 55]⟩⟩), (.string ⟨⟨[57, 50, 50, 51, 51, 55, 50, 48, 51, 54, 56, 53, 52, 55, 55, 53, 56, 48, 56]⟩⟩), (.string ⟨⟨[57, 50, 50, 51, 51, 55, 50, 48, 51, 54, 56, 53, 52, 55, 55, 53, 56, 48, 57]⟩⟩), (.string ⟨⟨[48, 120]⟩⟩), (.string ⟨⟨[38]⟩⟩), (.string ⟨⟨[40]⟩⟩), (.string ⟨⟨[91]⟩⟩), (.string ⟨⟨[59]⟩⟩), (.string ⟨⟨[0]⟩⟩), (.string ⟨⟨[195, 169]⟩⟩), (.string ⟨⟨[97, 98, 99, 100, 101, 102, 103, 104, 105, 106, 107, 108, 109, 110, 111, 112]⟩⟩), (.string ⟨⟨[97, 98, 99, 100, 101, 102, 103, 104, 105, 106, 107, 108, 109, 110, 111, 112, 113]⟩⟩), (.string ⟨⟨[37]⟩⟩), (.string ⟨⟨[36]⟩⟩), (.string ⟨⟨[13]⟩⟩)], rfl, rfl, ⟨[(.string ⟨⟨[32]⟩⟩)], [(.string ⟨⟨[9]⟩⟩), (.string ⟨⟨[10]⟩⟩), (.string ⟨⟨[35]⟩⟩), (.string ⟨⟨[62]⟩⟩), (.string ⟨⟨[62, 62]⟩⟩), (.string ⟨⟨[60]⟩⟩), (.string ⟨⟨[61]⟩⟩), (.string ⟨⟨[33]⟩⟩), (.string ⟨⟨[43]⟩⟩), (.string ⟨⟨[45]⟩⟩), (.string ⟨⟨[48]⟩⟩), (.string ⟨⟨[55]⟩⟩), (.string ⟨⟨[48, 55]⟩⟩), (.string ⟨⟨[57, 50, 50, 51, 51, 55, 50, 48, 51, 54, 56, 53, 52, 55, 55, 53, 56, 48, 56]⟩⟩), (.string ⟨⟨[57, 50, 50, 51, 51, 55, 50, 48, 51, 54, 56, 53, 52, 55, 55, 53, 56, 48, 57]⟩⟩), (.string ⟨⟨[48, 120]⟩⟩), (.string ⟨⟨[38]⟩⟩), (.string ⟨⟨[40]⟩⟩), (.string ⟨⟨[91]⟩⟩), (.string ⟨⟨[59]⟩⟩), (.string ⟨⟨[0]⟩⟩), (.string ⟨⟨[195, 169]⟩⟩), (.string ⟨⟨[97, 98, 99, 100, 101, 102, 103, 104, 105, 106, 107, 108, 109, 110, 111, 112]⟩⟩), (.string ⟨⟨[97, 98, 99, 100, 101, 102, 103, 104, 105, 106, 107, 108, 109, 110, 111, 112, 113]⟩⟩), (.string ⟨⟨[37]⟩⟩), (.string ⟨⟨[36]⟩⟩), (.string ⟨⟨[13]⟩⟩)], rfl, rfl, ⟨[(.string ⟨⟨[9]⟩⟩)], [(.string ⟨⟨[10]⟩⟩), (.string ⟨⟨[35]⟩⟩), (.string ⟨⟨[62]⟩⟩), (.string ⟨⟨[62, 62]⟩⟩), (.string ⟨⟨[60]⟩⟩), (.string ⟨⟨[61]⟩⟩), (.string ⟨⟨[33]⟩⟩), (.string ⟨⟨[43]⟩⟩), (.string ⟨⟨[45]⟩⟩), (.string ⟨⟨[48]⟩⟩), (.string ⟨⟨[55]⟩⟩), (.string ⟨⟨[48, 55]⟩⟩), (.string ⟨⟨[57, 50, 50, 51, 51, 55, 50, 48, 51, 54, 56, 53, 52, 55, 55, 53, 56, 48, 56]⟩⟩), (.string ⟨⟨[57, 50, 50, 51, 51, 55, 50, 48, 51, 54, 56, 53, 52, 55, 55, 53, 56, 48, 57]⟩⟩), (.string ⟨⟨[48, 120]⟩⟩), (.string ⟨⟨[38]⟩⟩), (.string ⟨⟨[40]⟩⟩), (.string ⟨⟨[91]⟩⟩), (.string ⟨⟨[59]⟩⟩), (.string ⟨⟨[0]⟩⟩), (.string ⟨⟨[195, 169]⟩⟩), (.string ⟨⟨[97, 98, 99, 100, 101, 102, 103, 104, 105, 106, 107, 108, 109, 110, 111, 112]⟩⟩), (.string ⟨⟨[97, 98, 99, 100, 101, 102, 103, 104, 105, 106, 107, 108, 109, 110, 111, 112, 113]⟩⟩), (.string ⟨⟨[37]⟩⟩), (.string ⟨⟨[36]⟩⟩), (.string ⟨⟨[13]⟩⟩)], rfl, rfl, ⟨[(.string ⟨⟨[10]⟩⟩)], [(.string ⟨⟨[35]⟩⟩), (.string ⟨⟨[62]⟩⟩), (.string ⟨⟨[62, 62]⟩⟩), (.string ⟨⟨[60]⟩⟩), (.string ⟨⟨[61]⟩⟩), (.string ⟨⟨[33]⟩⟩), (.string ⟨⟨[43]⟩⟩), (.string ⟨⟨[45]⟩⟩), (.string ⟨⟨[48]⟩⟩), (.string ⟨⟨[55]⟩⟩), (.string ⟨⟨[48, 55]⟩⟩), (.string ⟨⟨[57, 50, 50, 51, 51, 55, 50, 48, 51, 54, 56, 53, 52, 55, 55, 53, 56, 48, 56]⟩⟩), (.string ⟨⟨[57, 50, 50, 51, 51, 55, 50, 48, 51, 54, 56, 53, 52, 55, 55, 53, 56, 48, 57]⟩⟩), (.string ⟨⟨[48, 120]⟩⟩), (.string ⟨⟨[38]⟩⟩), (.string ⟨⟨[40]⟩⟩), (.string ⟨⟨[91]⟩⟩), (.string ⟨⟨[59]⟩⟩), (.string ⟨⟨[0]⟩⟩), (.string ⟨⟨[195, 169]⟩⟩), (.string ⟨⟨[97, 98, 99, 100, 101, 102, 103, 104, 105, 106, 107, 108, 109, 110, 111, 112]⟩⟩), (.string ⟨⟨[97, 98, 99, 100, 101, 102, 103, 104, 105, 106, 107, 108, 109, 110, 111, 112, 113]⟩⟩), (.string ⟨⟨[37]⟩⟩), (.string ⟨⟨[36]⟩⟩), (.string ⟨⟨[13]⟩⟩)], rfl, rfl, ⟨[(.string ⟨⟨[35]⟩⟩)], [(.string ⟨⟨[62]⟩⟩), (.string ⟨⟨[62, 62]⟩⟩), (.string ⟨⟨[60]⟩⟩), (.string ⟨⟨[61]⟩⟩), (.string ⟨⟨[33]⟩⟩), (.string ⟨⟨[43]⟩⟩), (.string ⟨⟨[45]⟩⟩), (.string ⟨⟨[48]⟩⟩), (.string ⟨⟨[55]⟩⟩), (.string ⟨⟨[48, 55]⟩⟩), (.string ⟨⟨[57, 50, 50, 51, 51, 55, 50, 48, 51, 54, 56, 53, 52, 55, 55, 53, 56, 48, 56]⟩⟩), (.string ⟨⟨[57, 50, 50, 51, 51, 55, 50, 48, 51, 54, 56, 53, 52, 55, 55, 53, 56, 48, 57]⟩⟩), (.string ⟨⟨[48, 120]⟩⟩), (.string ⟨⟨[38]⟩⟩), (.string ⟨⟨[40]⟩⟩), (.string ⟨⟨[91]⟩⟩), (.string ⟨⟨[59]⟩⟩), (.string ⟨⟨[0]⟩⟩), (.string ⟨⟨[195, 169]⟩⟩), (.string ⟨⟨[97, 98, 99, 100, 101, 102, 103, 104, 105, 106, 107, 108, 109, 110, 111, 112]⟩⟩), (.string ⟨⟨[97, 98, 99, 100, 101, 102, 103, 104, 105, 106, 107, 108, 109, 110, 111, 112, 113]⟩⟩), (.string ⟨⟨[37]⟩⟩), (.string ⟨⟨[36]⟩⟩), (.string ⟨⟨[13]⟩⟩)], rfl, rfl, ⟨[(.string ⟨⟨[62]⟩⟩)], [(.string ⟨⟨[62, 62]⟩⟩), (.string ⟨⟨[60]⟩⟩), (.string ⟨⟨[61]⟩⟩), (.string ⟨⟨[33]⟩⟩), (.string ⟨⟨[43]⟩⟩), (.string ⟨⟨[45]⟩⟩), (.string ⟨⟨[48]⟩⟩), (.string ⟨⟨[55]⟩⟩), (.string ⟨⟨[48, 55]⟩⟩), (.string ⟨⟨[57, 50, 50, 51, 51, 55, 50, 48, 51, 54, 56, 53, 52, 55, 55, 53, 56, 48, 56]⟩⟩), (.string ⟨⟨[57, 50, 50, 51, 51, 55, 50, 48, 51, 54, 56, 53, 52, 55, 55, 53, 56, 48, 57]⟩⟩), (.string ⟨⟨[48, 120]⟩⟩), (.string ⟨⟨[38]⟩⟩), (.string ⟨⟨[40]⟩⟩), (.string ⟨⟨[91]⟩⟩), (.string ⟨⟨[59]⟩⟩), (.string ⟨⟨[0]⟩⟩), (.string ⟨⟨[195, 169]⟩⟩), (.string ⟨⟨[97, 98, 99, 100, 101, 102, 103, 104, 105, 106, 107, 108, 109, 110, 111, 112]⟩⟩), (.string ⟨⟨[97, 98, 99, 100, 101, 102, 103, 104, 105, 106, 107, 108, 109, 110, 111, 112, 113]⟩⟩), (.string ⟨⟨[37]⟩⟩), (.string ⟨⟨[36]⟩⟩), (.string ⟨⟨[13]⟩⟩)], rfl, rfl, ⟨[(.string ⟨⟨[62, 62]⟩⟩)], [(.string ⟨⟨[60]⟩⟩), (.string ⟨⟨[61]⟩⟩), (.string ⟨⟨[33]⟩⟩), (.string ⟨⟨[43]⟩⟩), (.string ⟨⟨[45]⟩⟩), (.string ⟨⟨[48]⟩⟩), (.string ⟨⟨[55]⟩⟩), (.string ⟨⟨[48, 55]⟩⟩), (.string ⟨⟨[57, 50, 50, 51, 51, 55, 50, 48, 51, 54, 56, 53, 52, 55, 55, 53, 56, 48, 56]⟩⟩), (.string ⟨⟨[57, 50, 50, 51, 51, 55, 50, 48, 51, 54, 56, 53, 52, 55, 55, 53, 56, 48, 57]⟩⟩), (.string ⟨⟨[48, 120]⟩⟩), (.string ⟨⟨[38]⟩⟩), (.string ⟨⟨[40]⟩⟩), (.string ⟨⟨[91]⟩⟩), (.string ⟨⟨[59]⟩⟩), (.string ⟨⟨[0]⟩⟩), (.string ⟨⟨[195, 169]⟩⟩), (.string ⟨⟨[97, 98, 99, 100, 101, 102, 103, 104, 105, 106, 107, 108, 109, 110, 111, 112]⟩⟩), (.string ⟨⟨[97, 98, 99, 100, 101, 102, 103, 104, 105, 106, 107, 108, 109, 110, 111, 112, 113]⟩⟩), (.string ⟨⟨[37]⟩⟩), (.string ⟨⟨[36]⟩⟩), (.string ⟨⟨[13]⟩⟩)], rfl, rfl, ⟨[(.string ⟨⟨[60]⟩⟩)], [(.string ⟨⟨[61]⟩⟩), (.string ⟨⟨[33]⟩⟩), (.string ⟨⟨[43]⟩⟩), (.string ⟨⟨[45]⟩⟩), (.string ⟨⟨[48]⟩⟩), (.string ⟨⟨[55]⟩⟩), (.string ⟨⟨[48, 55]⟩⟩), (.string ⟨⟨[57, 50, 50, 51, 51, 55, 50, 48, 51, 54, 56, 53, 52, 55, 55, 53, 56, 48, 56]⟩⟩), (.string ⟨⟨[57, 50, 50, 51, 51, 55, 50, 48, 51, 54, 56, 53, 52, 55, 55, 53, 56, 48, 57]⟩⟩), (.string ⟨⟨[48, 120]⟩⟩), (.string ⟨⟨[38]⟩⟩), (.string ⟨⟨[40]⟩⟩), (.string ⟨⟨[91]⟩⟩), (.string ⟨⟨[59]⟩⟩), (.string ⟨⟨[0]⟩⟩), (.string ⟨⟨[195, 169]⟩⟩), (.string ⟨⟨[97, 98, 99, 100, 101, 102, 103, 104, 105, 106, 107, 108, 109, 110, 111, 112]⟩⟩), (.string ⟨⟨[97, 98, 99, 100, 101, 102, 103, 104, 105, 106, 107, 108, 109, 110, 111, 112, 113]⟩⟩), (.string ⟨⟨[37]⟩⟩), (.string ⟨⟨[36]⟩⟩), (.string ⟨⟨[13]⟩⟩)], rfl, rfl, ⟨[(.string ⟨⟨[61]⟩⟩)], [(.string ⟨⟨[33]⟩⟩), (.string ⟨⟨[43]⟩⟩), (.string ⟨⟨[45]⟩⟩), (.string ⟨⟨[48]⟩⟩), (.string ⟨⟨[55]⟩⟩), (.string ⟨⟨[48, 55]⟩⟩), (.string ⟨⟨[57, 50, 50, 51, 51, 55, 50, 48, 51, 54, 56, 53, 52, 55, 55, 53, 56, 48, 56]⟩⟩), (.string ⟨⟨[57, 50, 50, 51, 51, 55, 50, 48, 51, 54, 56, 53, 52, 55, 55, 53, 56, 48, 57]⟩⟩), (.string ⟨⟨[48, 120]⟩⟩), (.string ⟨⟨[38]⟩⟩), (.string ⟨⟨[40]⟩⟩), (.string ⟨⟨[91]⟩⟩), (.string ⟨⟨[59]⟩⟩), (.string ⟨⟨[0]⟩⟩), (.string ⟨⟨[195, 169]⟩⟩), (.string ⟨⟨[97, 98, 99, 100, 101, 102, 103, 104, 105, 106, 107, 108, 109, 110, 111, 112]⟩⟩), (.string ⟨⟨[97, 98, 99, 100, 101, 102, 103, 104, 105, 106, 107, 108, 109, 110, 111, 112, 113]⟩⟩), (.string ⟨⟨[37]⟩⟩), (.string ⟨⟨[36]⟩⟩), (.string ⟨⟨[13]⟩⟩)], rfl, rfl, ⟨[(.string ⟨⟨[33]⟩⟩)], [(.string ⟨⟨[43]⟩⟩), (.string ⟨⟨[45]⟩⟩), (.string ⟨⟨[48]⟩⟩), (.string ⟨⟨[55]⟩⟩), (.string ⟨⟨[48, 55]⟩⟩), (.string ⟨⟨[57, 50, 50, 51, 51, 55, 50, 48, 51, 54, 56, 53, 52, 55, 55, 53, 56, 48, 56]⟩⟩), (.string ⟨⟨[57, 50, 50, 51, 51, 55, 50, 48, 51, 54, 56, 53, 52, 55, 55, 53, 56, 48, 57]⟩⟩), (.string ⟨⟨[48, 120]⟩⟩), (.string ⟨⟨[38]⟩⟩), (.string ⟨⟨[40]⟩⟩), (.string ⟨⟨[91]⟩⟩), (.string ⟨⟨[59]⟩⟩), (.string ⟨⟨[0]⟩⟩), (.string ⟨⟨[195, 169]⟩⟩), (.string ⟨⟨[97, 98, 99, 100, 101, 102, 103, 104, 105, 106, 107, 108, 109, 110, 111, 112]⟩⟩), (.string ⟨⟨[97, 98, 99, 100, 101, 102, 103, 104, 105, 106, 107, 108, 109, 110, 111, 112, 113]⟩⟩), (.string ⟨⟨[37]⟩⟩), (.string ⟨⟨[36]⟩⟩), (.string ⟨⟨[13]⟩⟩)], rfl, rfl, ⟨[(.string ⟨⟨[43]⟩⟩)], [(.string ⟨⟨[45]⟩⟩), (.string ⟨⟨[48]⟩⟩), (.string ⟨⟨[55]⟩⟩), (.string ⟨⟨[48, 55]⟩⟩), (.string ⟨⟨[57, 50, 50, 51, 51, 55, 50, 48, 51, 54, 56, 53, 52, 55, 55, 53, 56, 48, 56]⟩⟩), (.string ⟨⟨[57, 50, 50, 51, 51, 55, 50, 48, 51, 54, 56, 53, 52, 55, 55, 53, 56, 48, 57]⟩⟩), (.string ⟨⟨[48, 120]⟩⟩), (.string ⟨⟨[38]⟩⟩), (.string ⟨⟨[40]⟩⟩), (.string ⟨⟨[91]⟩⟩), (.string ⟨⟨[59]⟩⟩), (.string ⟨⟨[0]⟩⟩), (.string ⟨⟨[195, 169]⟩⟩), (.string ⟨⟨[97, 98, 99, 100, 101, 102, 103, 104, 105, 106, 107, 108, 109, 110, 111, 112]⟩⟩), (.string ⟨⟨[97, 98, 99, 100, 101, 102, 103, 104, 105, 106, 107, 108, 109, 110, 111, 112, 113]⟩⟩), (.string ⟨⟨[37]⟩⟩), (.string ⟨⟨[36]⟩⟩), (.string ⟨⟨[13]⟩⟩)], rfl, rfl, ⟨[(.string ⟨⟨[45]⟩⟩)], [(.string ⟨⟨[48]⟩⟩), (.string ⟨⟨[55]⟩⟩), (.string ⟨⟨[48, 55]⟩⟩), (.string ⟨⟨[57, 50, 50, 51, 51, 55, 50, 48, 51, 54, 56, 53, 52, 55, 55, 53, 56, 48, 56]⟩⟩), (.string ⟨⟨[57, 50, 50, 51, 51, 55, 50, 48, 51, 54, 56, 53, 52, 55, 55, 53, 56, 48, 57]⟩⟩), (.string ⟨⟨[48, 120]⟩⟩), (.string ⟨⟨[38]⟩⟩), (.string ⟨⟨[40]⟩⟩), (.string ⟨⟨[91]⟩⟩), (.string ⟨⟨[59]⟩⟩), (.string ⟨⟨[0]⟩⟩), (.string ⟨⟨[195, 169]⟩⟩), (.string ⟨⟨[97, 98, 99, 100, 101, 102, 103, 104, 105, 106, 107, 108, 109, 110, 111, 112]⟩⟩), (.string ⟨⟨[97, 98, 99, 100, 101, 102, 103, 104, 105, 106, 107, 108, 109, 110, 111, 112, 113]⟩⟩), (.string ⟨⟨[37]⟩⟩), (.string ⟨⟨[36]⟩⟩), (.string ⟨⟨[13]⟩⟩)], rfl, rfl, ⟨[(.string ⟨⟨[48]⟩⟩)], [(.string ⟨⟨[55]⟩⟩), (.string ⟨⟨[48, 55]⟩⟩), (.string ⟨⟨[57, 50, 50, 51, 51, 55, 50, 48, 51, 54, 56, 53, 52, 55, 55, 53, 56, 48, 56]⟩⟩), (.string ⟨⟨[57, 50, 50, 51, 51, 55, 50, 48, 51, 54, 56, 53, 52, 55, 55, 53, 56, 48, 57]⟩⟩), (.string ⟨⟨[48, 120]⟩⟩), (.string ⟨⟨[38]⟩⟩), (.string ⟨⟨[40]⟩⟩), (.string ⟨⟨[91]⟩⟩), (.string ⟨⟨[59]⟩⟩), (.string ⟨⟨[0]⟩⟩), (.string ⟨⟨[195, 169]⟩⟩), (.string ⟨⟨[97, 98, 99, 100, 101, 102, 103, 104, 105, 106, 107, 108, 109, 110, 111, 112]⟩⟩), (.string ⟨⟨[97, 98, 99, 100, 101, 102, 103, 104, 105, 106, 107, 108, 109, 110, 111, 112, 113]⟩⟩), (.string ⟨⟨[37]⟩⟩), (.string ⟨⟨[36]⟩⟩), (.string ⟨⟨[13]⟩⟩)], rfl, rfl, ⟨[(.string ⟨⟨[55]⟩⟩)], [(.string ⟨⟨[48, 55]⟩⟩), (.string ⟨⟨[57, 50, 50, 51, 51, 55, 50, 48, 51, 54, 56, 53, 52, 55, 55, 53, 56, 48, 56]⟩⟩), (.string ⟨⟨[57, 50, 50, 51, 51, 55, 50, 48, 51, 54, 56, 53, 52, 55, 55, 53, 56, 48, 57]⟩⟩), (.string ⟨⟨[48, 120]⟩⟩), (.string ⟨⟨[38]⟩⟩), (.string ⟨⟨[40]⟩⟩), (.string ⟨⟨[91]⟩⟩), (.string ⟨⟨[59]⟩⟩), (.string ⟨⟨[0]⟩⟩), (.string ⟨⟨[195, 169]⟩⟩), (.string ⟨⟨[97, 98, 99, 100, 101, 102, 103, 104, 105, 106, 107, 108, 109, 110, 111, 112]⟩⟩), (.string ⟨⟨[97, 98, 99, 100, 101, 102, 103, 104, 105, 106, 107, 108, 109, 110, 111, 112, 113]⟩⟩), (.string ⟨⟨[37]⟩⟩), (.string ⟨⟨[36]⟩⟩), (.string ⟨⟨[13]⟩⟩)], rfl, rfl, ⟨[(.string ⟨⟨[48, 55]⟩⟩)], [(.string ⟨⟨[57, 50, 50, 51, 51, 55, 50, 48, 51, 54, 56, 53, 52, 55, 55, 53, 56, 48, 56]⟩⟩), (.string ⟨⟨[57, 50, 50, 51, 51, 55, 50, 48, 51, 54, 56, 53, 52, 55, 55, 53, 56, 48, 57]⟩⟩), (.string ⟨⟨[48, 120]⟩⟩), (.string ⟨⟨[38]⟩⟩), (.string ⟨⟨[40]⟩⟩), (.string ⟨⟨[91]⟩⟩), (.string ⟨⟨[59]⟩⟩), (.string ⟨⟨[0]⟩⟩), (.string ⟨⟨[195, 169]⟩⟩), (.string ⟨⟨[97, 98, 99, 100, 101, 102, 103, 104, 105, 106, 107, 108, 109, 110, 111, 112]⟩⟩), (.string ⟨⟨[97, 98, 99, 100, 101, 102, 103, 104, 105, 106, 107, 108, 109, 110, 111, 112, 113]⟩⟩), (.string ⟨⟨[37]⟩⟩), (.string ⟨⟨[36]⟩⟩), (.string ⟨⟨[13]⟩⟩)], rfl, rfl, ⟨[(.string ⟨⟨[57, 50, 50, 51, 51, 55, 50, 48, 51, 54, 56, 53, 52, 55, 55, 53, 56, 48, 56]⟩⟩)], [(.string ⟨⟨[57, 50, 50, 51, 51, 55, 50, 48, 51, 54, 56, 53, 52, 55, 55, 53, 56, 48, 57]⟩⟩), (.string ⟨⟨[48, 120]⟩⟩), (.string ⟨⟨[38]⟩⟩), (.string ⟨⟨[40]⟩⟩), (.string ⟨⟨[91]⟩⟩), (.string ⟨⟨[59]⟩⟩), (.string ⟨⟨[0]⟩⟩), (.string ⟨⟨[195, 169]⟩⟩), (.string ⟨⟨[97, 98, 99, 100, 101, 102, 103, 104, 105, 106, 107, 108, 109, 110, 111, 112]⟩⟩), (.string ⟨⟨[97, 98, 99, 100, 101, 102, 103, 104, 105, 106, 107, 108, 109, 110, 111, 112, 113]⟩⟩), (.string ⟨⟨[37]⟩⟩), (.string ⟨⟨[36]⟩⟩), (.string ⟨⟨[13]⟩⟩)], rfl, rfl, ⟨[(.string ⟨⟨[57, 50, 50, 51, 51, 55, 50, 48, 51, 54, 56, 53, 52, 55, 55, 53, 56, 48, 57]⟩⟩)], [(.string ⟨⟨[48, 120]⟩⟩), (.string ⟨⟨[38]⟩⟩), (.string ⟨⟨[40]⟩⟩), (.string ⟨⟨[91]⟩⟩), (.string ⟨⟨[59]⟩⟩), (.string ⟨⟨[0]⟩⟩), (.string ⟨⟨[195, 169]⟩⟩), (.string ⟨⟨[97, 98, 99, 100, 101, 102, 103, 104, 105, 106, 107, 108, 109, 110, 111, 112]⟩⟩), (.string ⟨⟨[97, 98, 99, 100, 101, 102, 103, 104, 105, 106, 107, 108, 109, 110, 111, 112, 113]⟩⟩), (.string ⟨⟨[37]⟩⟩), (.string ⟨⟨[36]⟩⟩), (.string ⟨⟨[13]⟩⟩)], rfl, rfl, ⟨[(.string ⟨⟨[48, 120]⟩⟩)], [(.string ⟨⟨[38]⟩⟩), (.string ⟨⟨[40]⟩⟩), (.string ⟨⟨[91]⟩⟩), (.string ⟨⟨[59]⟩⟩), (.string ⟨⟨[0]⟩⟩), (.string ⟨⟨[195, 169]⟩⟩), (.string ⟨⟨[97, 98, 99, 100, 101, 102, 103, 104, 105, 106, 107, 108, 109, 110, 111, 112]⟩⟩), (.string ⟨⟨[97, 98, 99, 100, 101, 102, 103, 104, 105, 106, 107, 108, 109, 110, 111, 112, 113]⟩⟩), (.string ⟨⟨[37]⟩⟩), (.string ⟨⟨[36]⟩⟩), (.string ⟨⟨[13]⟩⟩)], rfl, rfl, ⟨[(.string ⟨⟨[38]⟩⟩)], [(.string ⟨⟨[40]⟩⟩), (.string ⟨⟨[91]⟩⟩), (.string ⟨⟨[59]⟩⟩), (.string ⟨⟨[0]⟩⟩), (.string ⟨⟨[195, 169]⟩⟩), (.string ⟨⟨[97, 98, 99, 100, 101, 102, 103, 104, 105, 106, 107, 108, 109, 110, 111, 112]⟩⟩), (.string ⟨⟨[97, 98, 99, 100, 101, 102, 103, 104, 105, 106, 107, 108, 109, 110, 111, 112, 113]⟩⟩), (.string ⟨⟨[37]⟩⟩), (.string ⟨⟨[36]⟩⟩), (.string ⟨⟨[13]⟩⟩)], rfl, rfl, ⟨[(.string ⟨⟨[40]⟩⟩)], [(.string ⟨⟨[91]⟩⟩), (.string ⟨⟨[59]⟩⟩), (.string ⟨⟨[0]⟩⟩), (.string ⟨⟨[195, 169]⟩⟩), (.string ⟨⟨[97, 98, 99, 100, 101, 102, 103, 104, 105, 106, 107, 108, 109, 110, 111, 112]⟩⟩), (.string ⟨⟨[97, 98, 99, 100, 101, 102, 103, 104, 105, 106, 107, 108, 109, 110, 111, 112, 113]⟩⟩), (.string ⟨⟨[37]⟩⟩), (.string ⟨⟨[36]⟩⟩), (.string ⟨⟨[13]⟩⟩)], rfl, rfl, ⟨[(.string ⟨⟨[91]⟩⟩)], [(.string ⟨⟨[59]⟩⟩), (.string ⟨⟨[0]⟩⟩), (.string ⟨⟨[195, 169]⟩⟩), (.string ⟨⟨[97, 98, 99, 100, 101, 102, 103, 104, 105, 106, 107, 108, 109, 110, 111, 112]⟩⟩), (.string ⟨⟨[97, 98, 99, 100, 101, 102, 103, 104, 105, 106, 107, 108, 109, 110, 111, 112, 113]⟩⟩), (.string ⟨⟨[37]⟩⟩), (.string ⟨⟨[36]⟩⟩), (.string ⟨⟨[13]⟩⟩)], rfl, rfl, ⟨[(.string ⟨⟨[59]⟩⟩)], [(.string ⟨⟨[0]⟩⟩), (.string ⟨⟨[195, 169]⟩⟩), (.string ⟨⟨[97, 98, 99, 100, 101, 102, 103, 104, 105, 106, 107, 108, 109, 110, 111, 112]⟩⟩), (.string ⟨⟨[97, 98, 99, 100, 101, 102, 103, 104, 105, 106, 107, 108, 109, 110, 111, 112, 113]⟩⟩), (.string ⟨⟨[37]⟩⟩), (.string ⟨⟨[36]⟩⟩), (.string ⟨⟨[13]⟩⟩)], rfl, rfl, ⟨[(.string ⟨⟨[0]⟩⟩)], [(.string ⟨⟨[195, 169]⟩⟩), (.string ⟨⟨[97, 98, 99, 100, 101, 102, 103, 104, 105, 106, 107, 108, 109, 110, 111, 112]⟩⟩), (.string ⟨⟨[97, 98, 99, 100, 101, 102, 103, 104, 105, 106, 107, 108, 109, 110, 111, 112, 113]⟩⟩), (.string ⟨⟨[37]⟩⟩), (.string ⟨⟨[36]⟩⟩), (.string ⟨⟨[13]⟩⟩)], rfl, rfl, ⟨[(.string ⟨⟨[195, 169]⟩⟩)], [(.string ⟨⟨[97, 98, 99, 100, 101, 102, 103, 104, 105, 106, 107, 108, 109, 110, 111, 112]⟩⟩), (.string ⟨⟨[97, 98, 99, 100, 101, 102, 103, 104, 105, 106, 107, 108, 109, 110, 111, 112, 113]⟩⟩), (.string ⟨⟨[37]⟩⟩), (.string ⟨⟨[36]⟩⟩), (.string ⟨⟨[13]⟩⟩)], rfl, rfl, ⟨[(.string ⟨⟨[97, 98, 99, 100, 101, 102, 103, 104, 105, 106, 107, 108, 109, 110, 111, 112]⟩⟩)], [(.string ⟨⟨[97, 98, 99, 100, 101, 102, 103, 104, 105, 106, 107, 108, 109, 110, 111, 112, 113]⟩⟩), (.string ⟨⟨[37]⟩⟩), (.string ⟨⟨[36]⟩⟩), (.string ⟨⟨[13]⟩⟩)], rfl, rfl, ⟨[(.string ⟨⟨[97, 98, 99, 100, 101, 102, 103, 104, 105, 106, 107, 108, 109, 110, 111, 112, 113]⟩⟩)], [(.string ⟨⟨[37]⟩⟩), (.string ⟨⟨[36]⟩⟩), (.string ⟨⟨[13]⟩⟩)], rfl, rfl, ⟨[(.string ⟨⟨[37]⟩⟩)], [(.string ⟨⟨[36]⟩⟩), (.string ⟨⟨[13]⟩⟩)], rfl, rfl, ⟨[(.string ⟨⟨[36]⟩⟩)], [(.string ⟨⟨[13]⟩⟩)], rfl, rfl, ⟨[(.string ⟨⟨[13]⟩⟩)], [], rfl, rfl, rfl⟩⟩⟩⟩⟩⟩⟩⟩⟩⟩⟩⟩⟩⟩⟩⟩⟩⟩⟩⟩⟩⟩⟩⟩⟩⟩⟩⟩⟩⟩ rfl) rfl rfl ?_
  rintro _ H3 p2 ⟨a2, k2, rfl, ho2, hs3, _⟩
  have hs3 : HS (Base.of H []) F H3 [p2] R := hs3
  refine wa (.slice a2 ([⟨[97]⟩, ⟨[98, 95, 49]⟩, ⟨[32]⟩, ⟨[9]⟩, ⟨[10]⟩, ⟨[35]⟩, ⟨[62]⟩, ⟨[62, 62]⟩, ⟨[60]⟩, ⟨[61]⟩, ⟨[33]⟩, ⟨[43]⟩, ⟨[45]⟩, ⟨[48]⟩, ⟨[55]⟩, ⟨[48, 55]⟩, ⟨[57, 50, 50, 51, 51, 55, 50, 48, 51, 54, 56, 53, 52, 55, 55, 53, 56, 48, 56]⟩, ⟨[57, 50, 50, 51, 51, 55, 50, 48, 51, 54, 56, 53, 52, 55, 55, 53, 56, 48, 57]⟩, ⟨[48, 120]⟩, ⟨[38]⟩, ⟨[40]⟩, ⟨[91]⟩, ⟨[59]⟩, ⟨[0]⟩, ⟨[195, 169]⟩, ⟨[97, 98, 99, 100, 101, 102, 103, 104, 105, 106, 107, 108, 109, 110, 111, 112]⟩, ⟨[97, 98, 99, 100, 101, 102, 103, 104, 105, 106, 107, 108, 109, 110, 111, 112, 113]⟩, ⟨[37]⟩, ⟨[36]⟩, ⟨[13]⟩] : List Str).length k2) rfl rfl rfl ?_
  refine wo_end 2 rfl ?_
  refine wr 3 [] 1 0 [4] [(4, (.string ⟨⟨[]⟩⟩))] trivial (by kernel_rfl) rfl fun gg4 => ?_
  refine wr 2 [] 1 0 [5] [(5, (.int .i64 0))] trivial (by kernel_rfl) rfl fun gg5 => ?_
  refine wk_loop_inv (fun (mm : Nat) f H' => ∃ (s : List UInt8) (i : Nat), H' = H3 ∧ agrees f [(0, (.slice a_l l.length k_l)), (2, (.string ⟨⟨[]⟩⟩)), (3, (.slice a2 ([⟨[97]⟩, ⟨[98, 95, 49]⟩, ⟨[32]⟩, ⟨[9]⟩, ⟨[10]⟩, ⟨[35]⟩, ⟨[62]⟩, ⟨[62, 62]⟩, ⟨[60]⟩, ⟨[61]⟩, ⟨[33]⟩, ⟨[43]⟩, ⟨[45]⟩, ⟨[48]⟩, ⟨[55]⟩, ⟨[48, 55]⟩, ⟨[57, 50, 50, 51, 51, 55, 50, 48, 51, 54, 56, 53, 52, 55, 55, 53, 56, 48, 56]⟩, ⟨[57, 50, 50, 51, 51, 55, 50, 48, 51, 54, 56, 53, 52, 55, 55, 53, 56, 48, 57]⟩, ⟨[48, 120]⟩, ⟨[38]⟩, ⟨[40]⟩, ⟨[91]⟩, ⟨[59]⟩, ⟨[0]⟩, ⟨[195, 169]⟩, ⟨[97, 98, 99, 100, 101, 102, 103, 104, 105, 106, 107, 108, 109, 110, 111, 112]⟩, ⟨[97, 98, 99, 100, 101, 102, 103, 104, 105, 106, 107, 108, 109, 110, 111, 112, 113]⟩, ⟨[37]⟩, ⟨[36]⟩, ⟨[13]⟩] : List Str).length k2)), (4, (.string ⟨⟨s⟩⟩)), (5, (.int .i64 (i : Int)))] ∧ mm = 30 - i ∧ (s.length ≤ 19 * i) ∧ (i ≤ 30)) _ ⟨[], 0, rfl, (agC rfl (agC rfl (agC rfl (agC rfl (agC rfl agN))))), rfl, (by exact Nat.zero_le _), (by first | assumption | omega | (simp at *; omega))⟩ ?_
  rintro mm6 f6 H3 ⟨s, i, rfl, hf6, rfl, h1, h4⟩ ih6
  refine wk_canon _ hf6 (fun gg6 => ?_)
  clear hf6
  refine wk_foc 2 rfl ?_
  refine wr 1 [] 7 14 [] [(14, (.bool ((decide ((i : Int) < (l.length : Int))) && (decide ((i : Int) < 30)))))] trivial (by kernel_rfl) rfl fun gg7 => ?_
  refine wk_if 3 5 (v := ((decide ((i : Int) < (l.length : Int))) && (decide ((i : Int) < 30)))) rfl rfl rfl rfl (fun c8b => ?_) (fun c8b => ?_)
  · have c8 := c8b
    try simp only [BS] at c8
    have pr := pick_rng (n := l.getD i 0) (m := 30) (by decide)
    have ple := allP_le (k := (pickV (l.getD i 0) 30).toNat)
    unfold allP at ple
    obtain ⟨cf9, hv9⟩ := Sv.view (SR.sv hl hs3)
    have g10 := fI (hv9 i)
    obtain ⟨cf11, hv11⟩ := Sv.view (OS.sv ho2 hs3 (i := 0) rfl)
    refine wr 2 [(5, .o (.int .i64 (l.getD i 0))), (8, .o (.int .i64 (pickV (l.getD i 0) (30 : Int)))), (10, .o (.string ⟨⟨(([⟨[97]⟩, ⟨[98, 95, 49]⟩, ⟨[32]⟩, ⟨[9]⟩, ⟨[10]⟩, ⟨[35]⟩, ⟨[62]⟩, ⟨[62, 62]⟩, ⟨[60]⟩, ⟨[61]⟩, ⟨[33]⟩, ⟨[43]⟩, ⟨[45]⟩, ⟨[48]⟩, ⟨[55]⟩, ⟨[48, 55]⟩, ⟨[57, 50, 50, 51, 51, 55, 50, 48, 51, 54, 56, 53, 52, 55, 55, 53, 56, 48, 56]⟩, ⟨[57, 50, 50, 51, 51, 55, 50, 48, 51, 54, 56, 53, 52, 55, 55, 53, 56, 48, 57]⟩, ⟨[48, 120]⟩, ⟨[38]⟩, ⟨[40]⟩, ⟨[91]⟩, ⟨[59]⟩, ⟨[0]⟩, ⟨[195, 169]⟩, ⟨[97, 98, 99, 100, 101, 102, 103, 104, 105, 106, 107, 108, 109, 110, 111, 112]⟩, ⟨[97, 98, 99, 100, 101, 102, 103, 104, 105, 106, 107, 108, 109, 110, 111, 112, 113]⟩, ⟨[37]⟩, ⟨[36]⟩, ⟨[13]⟩] : List Str).getD ((pickV (l.getD i 0) (30 : Int)).toNat) default).b⟩⟩))] 17 28 [4] [(4, (.string ⟨⟨s ++ ((([⟨[97]⟩, ⟨[98, 95, 49]⟩, ⟨[32]⟩, ⟨[9]⟩, ⟨[10]⟩, ⟨[35]⟩, ⟨[62]⟩, ⟨[62, 62]⟩, ⟨[60]⟩, ⟨[61]⟩, ⟨[33]⟩, ⟨[43]⟩, ⟨[45]⟩, ⟨[48]⟩, ⟨[55]⟩, ⟨[48, 55]⟩, ⟨[57, 50, 50, 51, 51, 55, 50, 48, 51, 54, 56, 53, 52, 55, 55, 53, 56, 48, 56]⟩, ⟨[57, 50, 50, 51, 51, 55, 50, 48, 51, 54, 56, 53, 52, 55, 55, 53, 56, 48, 57]⟩, ⟨[48, 120]⟩, ⟨[38]⟩, ⟨[40]⟩, ⟨[91]⟩, ⟨[59]⟩, ⟨[0]⟩, ⟨[195, 169]⟩, ⟨[97, 98, 99, 100, 101, 102, 103, 104, 105, 106, 107, 108, 109, 110, 111, 112]⟩, ⟨[97, 98, 99, 100, 101, 102, 103, 104, 105, 106, 107, 108, 109, 110, 111, 112, 113]⟩, ⟨[37]⟩, ⟨[36]⟩, ⟨[13]⟩] : List Str).getD ((pickV (l.getD i 0) (30 : Int)).toNat) default).b)⟩⟩))] (vA (Sv.ix (j := (i : Int)) (SR.sv hl hs3) (by first | omega | (simp only [List.length_cons, List.length_nil]; omega)) (by first | omega | (simp only [List.length_cons, List.length_nil]; omega))) (vA (ql 3 0 (vI (hv9 i) (by first | omega | (simp only [List.length_cons, List.length_nil]; omega))) rfl rfl) (vA (l1.pick_c_q ex (l.getD i 0) (30) H3 (by first | omega | (simp only [List.length_cons, List.length_nil]; omega))) (vA (Sv.ix (j := pickV (l.getD i 0) (30 : Int)) (OS.sv ho2 hs3 (i := 0) rfl) (by first | omega | (simp only [List.length_cons, List.length_nil]; omega)) (show pickV (l.getD i 0) (30 : Int) < (30 : Int) from by first | omega | (simp only [List.length_cons, List.length_nil]; omega))) (vA (ql 9 0 (vS (hv11 ((pickV (l.getD i 0) (30 : Int)).toNat)) (show (pickV (l.getD i 0) (30 : Int)).toNat < 30 from by first | omega | (simp only [List.length_cons, List.length_nil]; omega))) rfl rfl) (vA (show (s : List UInt8).length + ((([⟨[97]⟩, ⟨[98, 95, 49]⟩, ⟨[32]⟩, ⟨[9]⟩, ⟨[10]⟩, ⟨[35]⟩, ⟨[62]⟩, ⟨[62, 62]⟩, ⟨[60]⟩, ⟨[61]⟩, ⟨[33]⟩, ⟨[43]⟩, ⟨[45]⟩, ⟨[48]⟩, ⟨[55]⟩, ⟨[48, 55]⟩, ⟨[57, 50, 50, 51, 51, 55, 50, 48, 51, 54, 56, 53, 52, 55, 55, 53, 56, 48, 56]⟩, ⟨[57, 50, 50, 51, 51, 55, 50, 48, 51, 54, 56, 53, 52, 55, 55, 53, 56, 48, 57]⟩, ⟨[48, 120]⟩, ⟨[38]⟩, ⟨[40]⟩, ⟨[91]⟩, ⟨[59]⟩, ⟨[0]⟩, ⟨[195, 169]⟩, ⟨[97, 98, 99, 100, 101, 102, 103, 104, 105, 106, 107, 108, 109, 110, 111, 112]⟩, ⟨[97, 98, 99, 100, 101, 102, 103, 104, 105, 106, 107, 108, 109, 110, 111, 112, 113]⟩, ⟨[37]⟩, ⟨[36]⟩, ⟨[13]⟩] : List Str).getD ((pickV (l.getD i 0) (30 : Int)).toNat) default).b : List UInt8).length ≤ 1099511627776 from by first | omega | (simp only [List.length_cons, List.length_nil]; omega)) trivial)))))) (by kernel_rfl) rfl fun gg13 => ?_
    refine wr 1 [] 15 16 [5] [(5, (.int .i64 ((i : Int) + 1)))] (vA (vi (n := (i : Int) + 1) (by first | omega | (simp only [List.length_cons, List.length_nil]; omega))) trivial) (by kernel_rfl) rfl fun gg14 => ?_
    refine ih6 _ _ _ ?_ ⟨s ++ ((([⟨[97]⟩, ⟨[98, 95, 49]⟩, ⟨[32]⟩, ⟨[9]⟩, ⟨[10]⟩, ⟨[35]⟩, ⟨[62]⟩, ⟨[62, 62]⟩, ⟨[60]⟩, ⟨[61]⟩, ⟨[33]⟩, ⟨[43]⟩, ⟨[45]⟩, ⟨[48]⟩, ⟨[55]⟩, ⟨[48, 55]⟩, ⟨[57, 50, 50, 51, 51, 55, 50, 48, 51, 54, 56, 53, 52, 55, 55, 53, 56, 48, 56]⟩, ⟨[57, 50, 50, 51, 51, 55, 50, 48, 51, 54, 56, 53, 52, 55, 55, 53, 56, 48, 57]⟩, ⟨[48, 120]⟩, ⟨[38]⟩, ⟨[40]⟩, ⟨[91]⟩, ⟨[59]⟩, ⟨[0]⟩, ⟨[195, 169]⟩, ⟨[97, 98, 99, 100, 101, 102, 103, 104, 105, 106, 107, 108, 109, 110, 111, 112]⟩, ⟨[97, 98, 99, 100, 101, 102, 103, 104, 105, 106, 107, 108, 109, 110, 111, 112, 113]⟩, ⟨[37]⟩, ⟨[36]⟩, ⟨[13]⟩] : List Str).getD ((pickV (l.getD i 0) (30 : Int)).toNat) default).b), i + 1, rfl, (agC rfl (agC rfl (agC rfl (agC rfl (agC rfl agN))))), rfl, (by have := allP_le (k := (pickV (l.getD i 0) 30).toNat); rw [List.length_append]; unfold allP at this; omega), (by first | assumption | omega | (simp at *; omega))⟩
    omega
  · have c8 := c8b
    try simp only [BS] at c8
    refine wr 1 [] 2 2 [29] [(2, (.string ⟨⟨s⟩⟩))] trivial (by kernel_rfl) rfl fun gg15 => ?_
    refine wk_ret ⟨.inr rfl, _, rfl, s, _, (Fz.le_refl _), (HS.forget hs3), rfl, (by first | assumption | omega | simp_all)⟩

theorem blank_c (ex : FuncId) (s : List UInt8) (H : Heap) (hl : s.length < 4611686018427387904) : C Try.prog 0 (KX ex) 27 [(.string ⟨⟨s⟩⟩)] H fun v H' => ∃ (r : Bool), H' = H ∧ v = .bool r ∧ r = blankN false s := by
  refine c_enter Try.func27 rfl rfl ?_
  refine wk_foc 1 rfl ?_
  refine wr 2 [] 2 2 [] [(2, (.bool false))] trivial (by kernel_rfl) rfl fun gg1 => ?_
  refine wr 3 [] 1 0 [3] [(3, (.bool false))] trivial (by kernel_rfl) rfl fun gg2 => ?_
  refine wr 2 [] 1 0 [4] [(4, (.int .i64 0))] trivial (by kernel_rfl) rfl fun gg3 => ?_
  refine wk_loop_inv (fun (mm : Nat) f H' => ∃ (inn : Bool) (i : Nat), H' = H ∧ agrees f [(0, (.string ⟨⟨s⟩⟩)), (3, (.bool inn)), (4, (.int .i64 (i : Int)))] ∧ mm = s.length - i ∧ (i ≤ s.length) ∧ (blankN inn (s.drop i) = blankN false s)) _ ⟨false, 0, rfl, (agC rfl (agC rfl (agC rfl agN))), rfl, (by first | assumption | omega | (simp at *; omega)), (by rfl)⟩ ?_
  rintro mm4 f4 H ⟨inn, i, rfl, hf4, rfl, h1, h2⟩ ih4
  refine wk_canon _ hf4 (fun gg4 => ?_)
  clear hf4
  refine wk_foc 2 rfl ?_
  refine wr 1 [] 5 8 [] [(8, (.bool (decide ((i : Int) < (s.length : Int)))))] trivial (by kernel_rfl) rfl fun gg5 => ?_
  refine wk_if 5 5 (v := (decide ((i : Int) < (s.length : Int)))) rfl rfl rfl rfl (fun c6b => ?_) (fun c6b => ?_)
  · have c6 := c6b
    try simp only [BS] at c6
    have c0 := c6
    have u8_7 := u8_lt (s.getD i 0)
    refine wr 1 [] 11 15 [] [(11, (.bool (((s.getD i 0).toNat : Int) == 10)))] (vA (vA (show (0 : Int) ≤ (i : Int) from by omega) (show (i : Int) < (((s : List UInt8).length : Nat) : Int) from by omega)) trivial) (by kernel_rfl) rfl fun gg8 => ?_
    refine wk_if 0 1 (v := (((s.getD i 0).toNat : Int) == 10)) rfl rfl rfl rfl (fun c9b => ?_) (fun c9b => ?_)
    · have c9 := c9b
      try simp only [BS] at c9
      have c1 := c9
      refine wr 3 [] 1 0 [3] [(3, (.bool false))] trivial (by kernel_rfl) rfl fun gg10 => ?_
      refine wr 1 [] 9 10 [4] [(4, (.int .i64 ((i : Int) + 1)))] (vA (vi (n := (i : Int) + 1) (by omega)) trivial) (by kernel_rfl) rfl fun gg11 => ?_
      refine ih4 _ _ _ ?_ ⟨false, i + 1, rfl, (agC rfl (agC rfl (agC rfl agN))), rfl, (by first | assumption | omega | (simp at *; omega)), (by first | exact bl_10 (by omega) (u8i (k := 10) (by omega) (by omega)) h2 | exact bl_35 (by omega) (u8i (k := 35) (by omega) (by omega)) h2 | exact bl_go (by omega) (u8n 10 (by omega)) (u8n 35 (by omega)) (by rintro ⟨e1, e2, e3, e4⟩; exact e4 (u8i (k := 13) (by omega) (c3 ⟨⟨e1, fun e => e2 (u8i (k := 32) (by omega) e)⟩, fun e => e3 (u8i (k := 9) (by omega) e)⟩))) h2)⟩
      omega
    · have c9 := c9b
      try simp only [BS] at c9
      have u8_12 := u8_lt (s.getD i 0)
      refine wr 1 [] 16 20 [] [(16, (.bool (((s.getD i 0).toNat : Int) == 35)))] (vA (vA (show (0 : Int) ≤ (i : Int) from by omega) (show (i : Int) < (((s : List UInt8).length : Nat) : Int) from by omega)) trivial) (by kernel_rfl) rfl fun gg13 => ?_
      refine wk_if 0 1 (v := (((s.getD i 0).toNat : Int) == 35)) rfl rfl rfl rfl (fun c14b => ?_) (fun c14b => ?_)
      · have c14 := c14b
        try simp only [BS] at c14
        have c2 := c14
        refine wr 3 [] 1 0 [3] [(3, (.bool true))] trivial (by kernel_rfl) rfl fun gg15 => ?_
        refine wr 1 [] 9 10 [4] [(4, (.int .i64 ((i : Int) + 1)))] (vA (vi (n := (i : Int) + 1) (by omega)) trivial) (by kernel_rfl) rfl fun gg16 => ?_
        refine ih4 _ _ _ ?_ ⟨true, i + 1, rfl, (agC rfl (agC rfl (agC rfl agN))), rfl, (by first | assumption | omega | (simp at *; omega)), (by first | exact bl_10 (by omega) (u8i (k := 10) (by omega) (by omega)) h2 | exact bl_35 (by omega) (u8i (k := 35) (by omega) (by omega)) h2 | exact bl_go (by omega) (u8n 10 (by omega)) (u8n 35 (by omega)) (by rintro ⟨e1, e2, e3, e4⟩; exact e4 (u8i (k := 13) (by omega) (c3 ⟨⟨e1, fun e => e2 (u8i (k := 32) (by omega) e)⟩, fun e => e3 (u8i (k := 9) (by omega) e)⟩))) h2)⟩
        omega
      · have c14 := c14b
        try simp only [BS] at c14
        have u8_17 := u8_lt (s.getD i 0)
        have u8_18 := u8_lt (s.getD i 0)
        have u8_19 := u8_lt (s.getD i 0)
        refine wr 1 [] 21 41 [] [(21, (.bool ((((!inn) && (((s.getD i 0).toNat : Int) != 32)) && (((s.getD i 0).toNat : Int) != 9)) && (((s.getD i 0).toNat : Int) != 13))))] (vA (fun (g1 : (!inn) = true) => (vA (show (0 : Int) ≤ (i : Int) from by (try simp only [BS] at g1); omega) (show (i : Int) < (((s : List UInt8).length : Nat) : Int) from by (try simp only [BS] at g1); omega))) (vA (fun (g1 : ((!inn) && (((s.getD i 0).toNat : Int) != 32)) = true) => (vA (show (0 : Int) ≤ (i : Int) from by (try simp only [BS] at g1); omega) (show (i : Int) < (((s : List UInt8).length : Nat) : Int) from by (try simp only [BS] at g1); omega))) (vA (fun (g1 : (((!inn) && (((s.getD i 0).toNat : Int) != 32)) && (((s.getD i 0).toNat : Int) != 9)) = true) => (vA (show (0 : Int) ≤ (i : Int) from by (try simp only [BS] at g1); omega) (show (i : Int) < (((s : List UInt8).length : Nat) : Int) from by (try simp only [BS] at g1); omega))) trivial))) (by kernel_rfl) rfl fun gg20 => ?_
        refine wk_if 1 3 (v := ((((!inn) && (((s.getD i 0).toNat : Int) != 32)) && (((s.getD i 0).toNat : Int) != 9)) && (((s.getD i 0).toNat : Int) != 13))) rfl rfl rfl rfl (fun c21b => ?_) (fun c21b => ?_)
        · have c21 := c21b
          try simp only [BS] at c21
          have c3 := c21
          refine wr 1 [] 2 2 [] [(2, (.bool false))] trivial (by kernel_rfl) rfl fun gg22 => ?_
          refine wk_ret ⟨.inr rfl, _, rfl, false, rfl, rfl, (by exact bl_no (by omega) (u8n 10 (by omega)) (u8n 35 (by omega)) ⟨c3.1.1.1, u8n 32 (by omega), u8n 9 (by omega), u8n 13 (by omega)⟩ h2)⟩
        · have c21 := c21b
          try simp only [BS] at c21
          have c3 := c21
          refine wr 1 [] 9 10 [4] [(4, (.int .i64 ((i : Int) + 1)))] (vA (vi (n := (i : Int) + 1) (by omega)) trivial) (by kernel_rfl) rfl fun gg23 => ?_
          refine ih4 _ _ _ ?_ ⟨inn, i + 1, rfl, (agC rfl (agC rfl (agC rfl agN))), rfl, (by first | assumption | omega | (simp at *; omega)), (by first | exact bl_10 (by omega) (u8i (k := 10) (by omega) (by omega)) h2 | exact bl_35 (by omega) (u8i (k := 35) (by omega) (by omega)) h2 | exact bl_go (by omega) (u8n 10 (by omega)) (u8n 35 (by omega)) (by rintro ⟨e1, e2, e3, e4⟩; exact e4 (u8i (k := 13) (by omega) (c3 ⟨⟨e1, fun e => e2 (u8i (k := 32) (by omega) e)⟩, fun e => e3 (u8i (k := 9) (by omega) e)⟩))) h2)⟩
          omega
  · have c6 := c6b
    try simp only [BS] at c6
    refine wr 1 [] 2 2 [] [(2, (.bool true))] trivial (by kernel_rfl) rfl fun gg24 => ?_
    refine wk_ret ⟨.inr rfl, _, rfl, true, rfl, rfl, (by exact bl_end (by omega) h2)⟩

theorem blank_c_q (ex : FuncId) (s : List UInt8) (H : Heap) (hl : s.length < 4611686018427387904) : C Try.prog 0 (KX ex) 27 [(.string ⟨⟨s⟩⟩)] H fun v H' => v = (.bool (blankN false s)) ∧ H' = H :=
  cq (blank_c ex s H hl) (by rintro _ _ ⟨_, rfl, rfl, rfl⟩; exact ⟨rfl, rfl⟩)

theorem take_no {s : List UInt8} {i : Nat} (h : ∀ j, j < i → s.getD j 0 ≠ 10) (hi : i ≤ s.length) : ∀ c ∈ s.take i, c ≠ 10 := by
  intro c hc
  obtain ⟨j, hj, e⟩ := List.getElem_of_mem hc
  have hj2 : j < i := by rw [List.length_take] at hj; omega
  have := h j hj2
  rw [List.getElem_take] at e
  rw [List.getD_eq_getElem?_getD, List.getElem?_eq_getElem (by omega)] at this
  intro e2; exact this (e.trans e2)
theorem no_step {s : List UInt8} {i j : Nat} (h : ∀ j, j < i → s.getD j 0 ≠ 10) (h2 : s.getD i 0 ≠ 10) (hj : j < i + 1) : s.getD j 0 ≠ 10 := by
  rcases Nat.lt_succ_iff_lt_or_eq.1 hj with h3 | rfl
  · exact h j h3
  · exact h2

theorem line_c (ex : FuncId) (s : List UInt8) (H : Heap) : C Try.prog 0 (KX ex) 28 [(.string ⟨⟨s⟩⟩)] H fun v H' => ∃ (r : List UInt8), H' = H ∧ v = .string ⟨⟨r⟩⟩ ∧ (r.length ≤ 101 ∧ ∀ c ∈ r, c ≠ 10) := by
  refine c_enter Try.func28 rfl rfl ?_
  refine wk_foc 1 rfl ?_
  refine wr 3 [] 2 2 [] [(2, (.string ⟨⟨[]⟩⟩))] trivial (by kernel_rfl) rfl fun gg1 => ?_
  refine wr 2 [] 1 0 [3] [(3, (.int .i64 0))] trivial (by kernel_rfl) rfl fun gg2 => ?_
  refine wk_loop_inv (fun (mm : Nat) f H' => ∃ (i : Nat), H' = H ∧ agrees f [(0, (.string ⟨⟨s⟩⟩)), (3, (.int .i64 (i : Int)))] ∧ mm = s.length - i ∧ (i ≤ s.length ∧ i ≤ 101) ∧ (∀ j, j < i → s.getD j 0 ≠ 10)) _ ⟨0, rfl, (agC rfl (agC rfl agN)), rfl, (by first | assumption | omega | (simp at *; omega)), (by intro j hj; omega)⟩ ?_
  rintro mm3 f3 H ⟨i, rfl, hf3, rfl, h1, h2⟩ ih3
  refine wk_canon _ hf3 (fun gg3 => ?_)
  clear hf3
  refine wk_foc 2 rfl ?_
  refine wr 1 [] 4 7 [] [(7, (.bool (decide ((i : Int) < (s.length : Int)))))] trivial (by kernel_rfl) rfl fun gg4 => ?_
  refine wk_if 4 5 (v := (decide ((i : Int) < (s.length : Int)))) rfl rfl rfl rfl (fun c5b => ?_) (fun c5b => ?_)
  · have c5 := c5b
    try simp only [BS] at c5
    have u8_6 := u8_lt (s.getD i 0)
    refine wr 1 [] 10 17 [] [(17, (.bool ((((s.getD i 0).toNat : Int) == 10) || (decide ((100 : Int) < (i : Int))))))] (vA (vA (show (0 : Int) ≤ (i : Int) from by omega) (show (i : Int) < (((s : List UInt8).length : Nat) : Int) from by omega)) trivial) (by kernel_rfl) rfl fun gg7 => ?_
    refine wk_if 1 2 (v := ((((s.getD i 0).toNat : Int) == 10) || (decide ((100 : Int) < (i : Int))))) rfl rfl rfl rfl (fun c8b => ?_) (fun c8b => ?_)
    · have c8 := c8b
      try simp only [BS] at c8
      refine wr 1 [] 18 20 [2] [(2, (.string ⟨⟨s.take i⟩⟩))] (vA (vA (show (0 : Int) ≤ (i : Int) from by omega) (show (i : Int) ≤ (((s : List UInt8).length : Nat) : Int) from by omega)) trivial) (by kernel_rfl) rfl fun gg9 => ?_
      refine wk_ret ⟨.inr rfl, _, rfl, s.take i, rfl, rfl, (by refine ⟨by rw [List.length_take]; omega, take_no h2 h1.1⟩)⟩
    · have c8 := c8b
      try simp only [BS] at c8
      have c1 := c8
      refine wr 1 [] 8 9 [3] [(3, (.int .i64 ((i : Int) + 1)))] (vA (vi (n := (i : Int) + 1) (by omega)) trivial) (by kernel_rfl) rfl fun gg10 => ?_
      refine ih3 _ _ _ ?_ ⟨i + 1, rfl, (agC rfl (agC rfl agN)), rfl, (by first | assumption | omega | (simp at *; omega)), (by intro j hj; exact no_step h2 (u8n 10 (by omega)) hj)⟩
      omega
  · have c5 := c5b
    try simp only [BS] at c5
    refine wr 1 [] 2 2 [21] [(2, (.string ⟨⟨s⟩⟩))] trivial (by kernel_rfl) rfl fun gg11 => ?_
    refine wk_ret ⟨.inr rfl, _, rfl, s, rfl, rfl, (by refine ⟨by omega, ?_⟩; have := take_no h2 h1.1; rwa [List.take_of_length_le (by omega)] at this)⟩

theorem toks_len : ∀ {l : List Token}, (∀ t ∈ l, tokOK t) → l.length ≤ (l.map fun t => t.text.b.length).sum
  | [], _ => by simp
  | t :: l, h => by
    have := toks_len (l := l) fun t ht => h t (by simp [ht])
    have h2 := List.length_pos_iff.2 (h t (by simp)).2.1
    simp only [List.length_cons, List.map_cons, List.sum_cons]; omega
theorem scan_len {s : List UInt8} (h : s.length ≤ 20000) : (scanS s).1.length ≤ s.length := by
  rw [scanS, if_neg (by omega)]
  have := scan_toks (s := s) (s.length + 1) (spl false s)
  have h2 := toks_len this.1
  rcases this.2 with h3 | h3
  · omega
  · rw [h3]; simp
theorem dropT {l : List Token} {k : Nat} (h : k < l.length) : l.drop k = l.getD k default :: l.drop (k + 1) := by
  rw [List.drop_eq_getElem_cons h, List.getD_eq_getElem?_getD, List.getElem?_eq_getElem h]; rfl
abbrev offA (s : List UInt8) (at_ : Nat) (t : Token) : Prop := (at_ : Int) ≤ t.at_ ∧ t.text.b ≠ [] ∧ t.at_ + t.text.b.length ≤ s.length ∧ (s.drop t.at_.toNat).take t.text.b.length = t.text.b ∧ blankN false ((s.drop at_).take (t.at_.toNat - at_)) = true
theorem off_head {s : List UInt8} {at_ k : Nat} {l : List Token} (h : offN s at_ (l.drop k)) (hk : k < l.length) : offA s at_ (l.getD k default) ∧ offN s ((l.getD k default).at_.toNat + (l.getD k default).text.b.length) (l.drop (k + 1)) := by
  rw [dropT hk] at h; exact h
theorem off_cond {s : List UInt8} {t : Token} {at_ : Int} {q : Prop} (h : offA s at_.toNat t ∧ q) (h3 : 0 ≤ at_) :
    (((((decide (t.at_ < at_)) || (t.text.b == ([] : List UInt8))) || (decide ((s.length : Int) < t.at_ + (t.text.b.length : Int)))) || (((s.drop t.at_.toNat).take ((t.at_ + (t.text.b.length : Int)).toNat - t.at_.toNat)) != t.text.b)) || (!(blankN false ((s.drop at_.toNat).take (t.at_.toNat - at_.toNat))))) = false := by
  obtain ⟨⟨h1, h2, h4, h5, h6⟩, _⟩ := h
  have e : (t.at_ + (t.text.b.length : Int)).toNat - t.at_.toNat = t.text.b.length := by omega
  rw [e, h5, h6]
  simp only [BS]
  exact ⟨⟨⟨⟨by omega, h2⟩, by omega⟩, trivial⟩, trivial⟩
theorem off_step {s : List UInt8} {t : Token} {at_ : Nat} {l : List Token} (h : offA s at_ t ∧ offN s (t.at_.toNat + t.text.b.length) l) : offN s (t.at_ + (t.text.b.length : Int)).toNat l := by
  have e : (t.at_ + (t.text.b.length : Int)).toNat = t.at_.toNat + t.text.b.length := by have := h.1.1; omega
  rw [e]; exact h.2
theorem off_end {s : List UInt8} {at_ : Nat} {k : Nat} {l : List Token} (h : offN s at_ (l.drop k)) (hk : ¬ k < l.length) : at_ ≤ s.length ∧ blankN false (s.drop at_) = true := by
  rw [List.drop_of_length_le (by omega)] at h; exact h
theorem off_err {s : List UInt8} (hl : s.length ≤ 20000) (h : (scanS s).2.1 ≠ 0) : ((((((scanS s).1.length : Int) == 0) && (decide ((0 : Int) ≤ (scanS s).2.2))) && (decide ((scanS s).2.2 < (s.length : Int)))) && true) = true := by
  obtain ⟨h1, h2, h3⟩ := offsets_err hl h
  rw [h1]
  simp [h2, h3]

theorem offsets_c {a_l : Option Addr} {k_l : Nat} (l : List Int) {F : Fz} {H : Heap} {R : List Fp} (hs : HS (.of H []) F H [] R) (hl : SR F (.slice a_l l.length k_l) l) : C Try.prog 0 (KX 6) 8 [(.slice a_l l.length k_l)] H fun v H' => ∃ (r : Bool) (F' : Fz), Fz.le F F' ∧ HS (.of H []) F' H' [] R ∧ v = .bool r ∧ r = true := by
  refine c_enter Try.func8 rfl rfl ?_
  refine wk_foc 1 rfl ?_
  refine wr 2 [] 2 2 [] [(2, (.bool false))] trivial (by kernel_rfl) rfl fun gg1 => ?_
  refine wk_region ?_
  refine wm (.slice a_l l.length k_l) rfl rfl rfl ?_
  refine wo_call (ap_call rfl rfl rfl) rfl rfl (pieces_c 6 l (HS.call hs) hl) ?_
  rintro _ H2 ⟨r2, F2, hF2, hs2, rfl, h2⟩
  replace hs2 := HS.back hs rfl hs2
  have hs2 : HS (Base.of H []) F2 H2 [] R := hs2
  replace hl := hl.mono hF2
  refine wa (.string ⟨⟨r2⟩⟩) rfl rfl rfl ?_
  refine wo_end 2 rfl ?_
  refine wk_region ?_
  refine wm (.string ⟨⟨r2⟩⟩) rfl rfl rfl ?_
  refine wo_call (ap_call rfl rfl rfl) rfl rfl (l1.scan_c 6 r2 (HS.call hs2) (by first | omega | (simp only [List.length_append, List.length_cons, List.length_nil]; omega) | (simp only [List.length_take, List.length_drop]; omega))) ?_
  rintro _ H3 ⟨al3, kl3, l3, p3, e3, F3, hF3, hs3, rfl, hrl3, hge3_0, hge3_1, rfl, rfl⟩
  replace hs3 := HS.back hs2 rfl hs3
  have hs3 : HS (Base.of H []) F3 H3 [p3] R := hs3
  replace hl := hl.mono hF3
  refine wro 3 2 [] 14 15 [11] [(14, (.slice al3 ((scanS r2).1).length kl3)), (15, (.agg ⟨[(.int .i64 ((ErrT.mk (scanS r2).2.1 (scanS r2).2.2).why)), (.int .i64 ((ErrT.mk (scanS r2).2.1 (scanS r2).2.2).at_))]⟩))] trivial (by kernel_rfl) rfl fun gg4 => ?_
  refine wo_rs (rs_new hs3 rfl) rfl rfl ?_
  rintro _ H6 _ ⟨b5, rfl, hs6, _⟩
  have hs6 : HS (Base.of H []) F3 H6 [p3, [(b5, .cells [(.int .i64 0), (.int .i64 0)] none false)]] R := hs6
  refine wa (.slice al3 ((scanS r2).1).length kl3) rfl rfl rfl ?_
  refine wo_rk (rs_rec (q := 1) hs6 rfl rfl rfl rfl rfl rfl rfl rfl rfl) rfl ?_
  rintro _ H7 _ ⟨hs7, _⟩
  have hs7 : HS (Base.of H []) F3 H7 [p3, [(b5, .cells [(.int .i64 ((ErrT.mk (scanS r2).2.1 (scanS r2).2.2).why)), (.int .i64 ((ErrT.mk (scanS r2).2.1 (scanS r2).2.2).at_))] none false)]] R := hs7
  refine wo_end 3 rfl ?_
  refine wr 1 [(1, .o (.int .i64 ((ErrT.mk (scanS r2).2.1 (scanS r2).2.2).why)))] 16 18 [] [(18, (.bool ((ErrT.mk (scanS r2).2.1 (scanS r2).2.2).why != 0)))] (vA (ql 36 0 (HS.hc hs7 (i := 1) rfl) rfl rfl) trivial) (by kernel_rfl) rfl fun gg8 => ?_
  refine wk_if 1 2 (v := ((ErrT.mk (scanS r2).2.1 (scanS r2).2.2).why != 0)) rfl rfl rfl rfl (fun c9b => ?_) (fun c9b => ?_)
  · have c9 := c9b
    try simp only [BS] at c9
    have e0 := c9
    refine wr 1 [(5, .o (.int .i64 ((ErrT.mk (scanS r2).2.1 (scanS r2).2.2).at_))), (10, .o (.int .i64 ((ErrT.mk (scanS r2).2.1 (scanS r2).2.2).at_))), (16, .o (.bool true))] 19 36 [2] [(2, (.bool (((((((scanS r2).1).length : Int) == 0) && (decide ((0 : Int) ≤ (ErrT.mk (scanS r2).2.1 (scanS r2).2.2).at_))) && (decide ((ErrT.mk (scanS r2).2.1 (scanS r2).2.2).at_ < (r2.length : Int)))) && true)))] (vA (fun (g1 : ((((scanS r2).1).length : Int) == 0) = true) => (ql 3 1 (HS.hc hs7 (i := 1) rfl) rfl rfl)) (vA (fun (g1 : (((((scanS r2).1).length : Int) == 0) && (decide ((0 : Int) ≤ (ErrT.mk (scanS r2).2.1 (scanS r2).2.2).at_))) = true) => (ql 3 1 (HS.hc hs7 (i := 1) rfl) rfl rfl)) (vA (fun (g1 : ((((((scanS r2).1).length : Int) == 0) && (decide ((0 : Int) ≤ (ErrT.mk (scanS r2).2.1 (scanS r2).2.2).at_))) && (decide ((ErrT.mk (scanS r2).2.1 (scanS r2).2.2).at_ < (r2.length : Int)))) = true) => (ex_c_q 6 H7)) trivial))) (by kernel_rfl) rfl fun gg10 => ?_
    refine wk_ret ⟨.inr rfl, _, rfl, (((((((scanS r2).1).length : Int) == 0) && (decide ((0 : Int) ≤ (ErrT.mk (scanS r2).2.1 (scanS r2).2.2).at_))) && (decide ((ErrT.mk (scanS r2).2.1 (scanS r2).2.2).at_ < (r2.length : Int)))) && true), _, (Fz.le_trans (hF2) hF3), (HS.forget hs7), rfl, (by exact off_err (by omega) e0)⟩
  · have c9 := c9b
    try simp only [BS] at c9
    have e0 := c9
    have hsl := scan_len (s := r2) (by omega)
    refine wr 3 [] 1 0 [6] [(6, (.int .i64 0))] trivial (by kernel_rfl) rfl fun gg11 => ?_
    refine wr 2 [] 37 39 [] [(37, (.slice al3 ((scanS r2).1).length kl3)), (38, (.int .i64 (((scanS r2).1).length : Int))), (39, (.int .i64 0))] trivial (by kernel_rfl) rfl fun gg12 => ?_
    refine wk_loop_inv (fun (mm : Nat) f H' => ∃ (k : Nat) (at_ : Int) (F' : Fz), Fz.le F3 F' ∧ HS (Base.of H []) F' H' [p3, [(b5, .cells [(.int .i64 ((ErrT.mk (scanS r2).2.1 (scanS r2).2.2).why)), (.int .i64 ((ErrT.mk (scanS r2).2.1 (scanS r2).2.2).at_))] none false)]] R ∧ agrees f [(3, (.string ⟨⟨r2⟩⟩)), (6, (.int .i64 at_)), (37, (.slice al3 ((scanS r2).1).length kl3)), (38, (.int .i64 (((scanS r2).1).length : Int))), (39, (.int .i64 (k : Int)))] ∧ mm = ((scanS r2).1).length - k ∧ (k ≤ ((scanS r2).1).length) ∧ (offN r2 at_.toNat (((scanS r2).1).drop k)) ∧ (0 ≤ at_)) _ ⟨0, 0, _, (Fz.le_refl _), hs7, (agC rfl (agC rfl (agC rfl (agC rfl (agC rfl agN))))), rfl, (by omega), (by exact offsets_ok (by omega) (by simpa using e0)), (by omega)⟩ ?_
    rintro mm13 f13 H13 ⟨k, at_, F13, hF13, hs13, hf13, rfl, h1, h2, h3⟩ ih13
    refine wk_canon _ hf13 (fun gg13 => ?_)
    clear hf13
    replace hrl3 := hrl3.mono hF13
    refine wk_foc 1 rfl ?_
    refine wr 2 [] 40 40 [] [(40, (.bool (decide ((k : Int) < (((scanS r2).1).length : Int)))))] trivial (by kernel_rfl) rfl fun gg14 => ?_
    refine wk_if 4 5 (v := (decide ((k : Int) < (((scanS r2).1).length : Int)))) rfl rfl rfl rfl (fun c15b => ?_) (fun c15b => ?_)
    · have c15 := c15b
      try simp only [BS] at c15
      have hof := off_head h2 (by omega)
      have hof1 := hof.1
      refine wk_region ?_
      obtain ⟨cf16, hv16⟩ := Sv.view (OS.sv hrl3 hs13 (i := 0) rfl)
      obtain ⟨g17_0, g17_2⟩ := Token.fx (hv16 k)
      refine wro 2 0 [(1, .o (.agg ⟨[(.int .i64 ((((scanS r2).1).getD k default).kind)), (.string ⟨⟨(((scanS r2).1).getD k default).text.b⟩⟩), (.int .i64 ((((scanS r2).1).getD k default).at_))]⟩))] 41 42 [] [(42, (.agg ⟨[(.int .i64 ((((scanS r2).1).getD k default).kind)), (.string ⟨⟨(((scanS r2).1).getD k default).text.b⟩⟩), (.int .i64 ((((scanS r2).1).getD k default).at_))]⟩))] (vA (Sv.ix (j := (k : Int)) (OS.sv hrl3 hs13 (i := 0) rfl) (by first | omega | (simp only [List.length_append, List.length_cons, List.length_nil]; omega) | (simp only [List.length_take, List.length_drop]; omega)) (by first | omega | (simp only [List.length_append, List.length_cons, List.length_nil]; omega) | (simp only [List.length_take, List.length_drop]; omega))) (vA (qn 43 0 3 (Token.vw (hv16 k) (by first | omega | (simp only [List.length_append, List.length_cons, List.length_nil]; omega) | (simp only [List.length_take, List.length_drop]; omega))) rfl rfl rfl rfl) trivial)) (by kernel_rfl) rfl fun gg18 => ?_
      refine wo_rs (rs_new hs13 rfl) rfl rfl ?_
      rintro _ H20 _ ⟨b19, rfl, hs20, _⟩
      have hs20 : HS (Base.of H []) F13 H20 [p3, [(b5, .cells [(.int .i64 ((ErrT.mk (scanS r2).2.1 (scanS r2).2.2).why)), (.int .i64 ((ErrT.mk (scanS r2).2.1 (scanS r2).2.2).at_))] none false)], [(b19, .cells [(.int .i64 0), (.string ⟨⟨[]⟩⟩), (.int .i64 0)] none false)]] R := hs20
      refine wo_rk (rs_rec (q := 2) hs20 rfl rfl rfl rfl rfl rfl rfl rfl rfl) rfl ?_
      rintro _ H21 _ ⟨hs21, _⟩
      have hs21 : HS (Base.of H []) F13 H21 [p3, [(b5, .cells [(.int .i64 ((ErrT.mk (scanS r2).2.1 (scanS r2).2.2).why)), (.int .i64 ((ErrT.mk (scanS r2).2.1 (scanS r2).2.2).at_))] none false)], [(b19, .cells [(.int .i64 ((((scanS r2).1).getD k default).kind)), (.string ⟨⟨(((scanS r2).1).getD k default).text.b⟩⟩), (.int .i64 ((((scanS r2).1).getD k default).at_))] none false)]] R := hs21
      refine wo_end 3 rfl ?_
      refine wrD 1 [(1, .o (.int .i64 ((((scanS r2).1).getD k default).at_))), (6, .o (.string ⟨⟨(((scanS r2).1).getD k default).text.b⟩⟩)), (11, .o (.int .i64 ((((scanS r2).1).getD k default).at_))), (13, .o (.string ⟨⟨(((scanS r2).1).getD k default).text.b⟩⟩)), (23, .o (.int .i64 ((((scanS r2).1).getD k default).at_))), (25, .o (.int .i64 ((((scanS r2).1).getD k default).at_))), (27, .o (.string ⟨⟨(((scanS r2).1).getD k default).text.b⟩⟩)), (32, .o (.string ⟨⟨(((scanS r2).1).getD k default).text.b⟩⟩)), (39, .o (.int .i64 ((((scanS r2).1).getD k default).at_))), (41, .o (.bool (blankN false ((r2.drop at_.toNat).take ((((((scanS r2).1).getD k default).at_).toNat) - at_.toNat)))))] 43 86 [] [(86, (.bool (((((decide ((((scanS r2).1).getD k default).at_ < at_)) || (((((scanS r2).1).getD k default).text.b) == ([] : List UInt8))) || (decide ((r2.length : Int) < ((((scanS r2).1).getD k default).at_) + (((((scanS r2).1).getD k default).text.b).length : Int)))) || (((r2.drop (((((scanS r2).1).getD k default).at_).toNat)).take (((((((scanS r2).1).getD k default).at_) + (((((scanS r2).1).getD k default).text.b).length : Int)).toNat) - (((((scanS r2).1).getD k default).at_).toNat))) != ((((scanS r2).1).getD k default).text.b))) || (!(blankN false ((r2.drop at_.toNat).take ((((((scanS r2).1).getD k default).at_).toNat) - at_.toNat)))))))] (vA (ql 3 2 (hc0 (HS.hc hs21 (i := 2) rfl)) rfl rfl) (vA (fun (g1 : (decide ((((scanS r2).1).getD k default).at_ < at_)) = false) => (ql 9 1 (hc0 (HS.hc hs21 (i := 2) rfl)) rfl rfl)) (vA (fun (g1 : ((decide ((((scanS r2).1).getD k default).at_ < at_)) || (((((scanS r2).1).getD k default).text.b) == ([] : List UInt8))) = false) => (ql 3 2 (hc0 (HS.hc hs21 (i := 2) rfl)) rfl rfl)) (vA (fun (g1 : ((decide ((((scanS r2).1).getD k default).at_ < at_)) || (((((scanS r2).1).getD k default).text.b) == ([] : List UInt8))) = false) => (ql 9 1 (hc0 (HS.hc hs21 (i := 2) rfl)) rfl rfl)) (vA (fun (g1 : ((decide ((((scanS r2).1).getD k default).at_ < at_)) || (((((scanS r2).1).getD k default).text.b) == ([] : List UInt8))) = false) => (vi (n := ((((scanS r2).1).getD k default).at_) + (((((scanS r2).1).getD k default).text.b).length : Int)) (by (try simp only [BS] at g1); (first | omega | (simp only [List.length_append, List.length_cons, List.length_nil]; omega) | (simp only [List.length_take, List.length_drop]; omega))))) (vA (fun (g1 : (((decide ((((scanS r2).1).getD k default).at_ < at_)) || (((((scanS r2).1).getD k default).text.b) == ([] : List UInt8))) || (decide ((r2.length : Int) < ((((scanS r2).1).getD k default).at_) + (((((scanS r2).1).getD k default).text.b).length : Int)))) = false) => (ql 3 2 (hc0 (HS.hc hs21 (i := 2) rfl)) rfl rfl)) (vA (fun (g1 : (((decide ((((scanS r2).1).getD k default).at_ < at_)) || (((((scanS r2).1).getD k default).text.b) == ([] : List UInt8))) || (decide ((r2.length : Int) < ((((scanS r2).1).getD k default).at_) + (((((scanS r2).1).getD k default).text.b).length : Int)))) = false) => (ql 3 2 (hc0 (HS.hc hs21 (i := 2) rfl)) rfl rfl)) (vA (fun (g1 : (((decide ((((scanS r2).1).getD k default).at_ < at_)) || (((((scanS r2).1).getD k default).text.b) == ([] : List UInt8))) || (decide ((r2.length : Int) < ((((scanS r2).1).getD k default).at_) + (((((scanS r2).1).getD k default).text.b).length : Int)))) = false) => (ql 9 1 (hc0 (HS.hc hs21 (i := 2) rfl)) rfl rfl)) (vA (fun (g1 : (((decide ((((scanS r2).1).getD k default).at_ < at_)) || (((((scanS r2).1).getD k default).text.b) == ([] : List UInt8))) || (decide ((r2.length : Int) < ((((scanS r2).1).getD k default).at_) + (((((scanS r2).1).getD k default).text.b).length : Int)))) = false) => (vi (n := ((((scanS r2).1).getD k default).at_) + (((((scanS r2).1).getD k default).text.b).length : Int)) (by (try simp only [BS] at g1); (first | omega | (simp only [List.length_append, List.length_cons, List.length_nil]; omega) | (simp only [List.length_take, List.length_drop]; omega))))) (vA (fun (g1 : (((decide ((((scanS r2).1).getD k default).at_ < at_)) || (((((scanS r2).1).getD k default).text.b) == ([] : List UInt8))) || (decide ((r2.length : Int) < ((((scanS r2).1).getD k default).at_) + (((((scanS r2).1).getD k default).text.b).length : Int)))) = false) => (vA (show (0 : Int) ≤ (((scanS r2).1).getD k default).at_ from by (try simp only [BS] at g1); (first | omega | (simp only [List.length_append, List.length_cons, List.length_nil]; omega) | (simp only [List.length_take, List.length_drop]; omega))) (vA (show (((scanS r2).1).getD k default).at_ ≤ ((((scanS r2).1).getD k default).at_) + (((((scanS r2).1).getD k default).text.b).length : Int) from by (try simp only [BS] at g1); (first | omega | (simp only [List.length_append, List.length_cons, List.length_nil]; omega) | (simp only [List.length_take, List.length_drop]; omega))) (show ((((scanS r2).1).getD k default).at_) + (((((scanS r2).1).getD k default).text.b).length : Int) ≤ (((r2 : List UInt8).length : Nat) : Int) from by (try simp only [BS] at g1); (first | omega | (simp only [List.length_append, List.length_cons, List.length_nil]; omega) | (simp only [List.length_take, List.length_drop]; omega)))))) (vA (fun (g1 : (((decide ((((scanS r2).1).getD k default).at_ < at_)) || (((((scanS r2).1).getD k default).text.b) == ([] : List UInt8))) || (decide ((r2.length : Int) < ((((scanS r2).1).getD k default).at_) + (((((scanS r2).1).getD k default).text.b).length : Int)))) = false) => (ql 9 1 (hc0 (HS.hc hs21 (i := 2) rfl)) rfl rfl)) (vA (fun (g1 : ((((decide ((((scanS r2).1).getD k default).at_ < at_)) || (((((scanS r2).1).getD k default).text.b) == ([] : List UInt8))) || (decide ((r2.length : Int) < ((((scanS r2).1).getD k default).at_) + (((((scanS r2).1).getD k default).text.b).length : Int)))) || (((r2.drop (((((scanS r2).1).getD k default).at_).toNat)).take (((((((scanS r2).1).getD k default).at_) + (((((scanS r2).1).getD k default).text.b).length : Int)).toNat) - (((((scanS r2).1).getD k default).at_).toNat))) != ((((scanS r2).1).getD k default).text.b))) = false) => (ql 3 2 (hc0 (HS.hc hs21 (i := 2) rfl)) rfl rfl)) (vA (fun (g1 : ((((decide ((((scanS r2).1).getD k default).at_ < at_)) || (((((scanS r2).1).getD k default).text.b) == ([] : List UInt8))) || (decide ((r2.length : Int) < ((((scanS r2).1).getD k default).at_) + (((((scanS r2).1).getD k default).text.b).length : Int)))) || (((r2.drop (((((scanS r2).1).getD k default).at_).toNat)).take (((((((scanS r2).1).getD k default).at_) + (((((scanS r2).1).getD k default).text.b).length : Int)).toNat) - (((((scanS r2).1).getD k default).at_).toNat))) != ((((scanS r2).1).getD k default).text.b))) = false) => (vA (show (0 : Int) ≤ at_ from by (try simp only [BS] at g1); (first | omega | (simp only [List.length_append, List.length_cons, List.length_nil]; omega) | (simp only [List.length_take, List.length_drop]; omega))) (vA (show at_ ≤ (((scanS r2).1).getD k default).at_ from by (try simp only [BS] at g1); (first | omega | (simp only [List.length_append, List.length_cons, List.length_nil]; omega) | (simp only [List.length_take, List.length_drop]; omega))) (show (((scanS r2).1).getD k default).at_ ≤ (((r2 : List UInt8).length : Nat) : Int) from by (try simp only [BS] at g1); (first | omega | (simp only [List.length_append, List.length_cons, List.length_nil]; omega) | (simp only [List.length_take, List.length_drop]; omega)))))) (vA (fun (g1 : ((((decide ((((scanS r2).1).getD k default).at_ < at_)) || (((((scanS r2).1).getD k default).text.b) == ([] : List UInt8))) || (decide ((r2.length : Int) < ((((scanS r2).1).getD k default).at_) + (((((scanS r2).1).getD k default).text.b).length : Int)))) || (((r2.drop (((((scanS r2).1).getD k default).at_).toNat)).take (((((((scanS r2).1).getD k default).at_) + (((((scanS r2).1).getD k default).text.b).length : Int)).toNat) - (((((scanS r2).1).getD k default).at_).toNat))) != ((((scanS r2).1).getD k default).text.b))) = false) => (blank_c_q 6 ((r2.drop at_.toNat).take ((((((scanS r2).1).getD k default).at_).toNat) - at_.toNat)) { H21 with log := [] } (by (try simp only [BS] at g1); (first | omega | (simp only [List.length_append, List.length_cons, List.length_nil]; omega) | (simp only [List.length_take, List.length_drop]; omega))))) trivial)))))))))))))) rfl (by kernel_rfl) rfl fun gg22 => ?_
      refine wk_iff 1 (v := (((((decide ((((scanS r2).1).getD k default).at_ < at_)) || (((((scanS r2).1).getD k default).text.b) == ([] : List UInt8))) || (decide ((r2.length : Int) < ((((scanS r2).1).getD k default).at_) + (((((scanS r2).1).getD k default).text.b).length : Int)))) || (((r2.drop (((((scanS r2).1).getD k default).at_).toNat)).take (((((((scanS r2).1).getD k default).at_) + (((((scanS r2).1).getD k default).text.b).length : Int)).toNat) - (((((scanS r2).1).getD k default).at_).toNat))) != ((((scanS r2).1).getD k default).text.b))) || (!(blankN false ((r2.drop at_.toNat).take ((((((scanS r2).1).getD k default).at_).toNat) - at_.toNat)))))) rfl (by exact off_cond hof h3) rfl rfl ?_
      refine wr 2 [(1, .o (.int .i64 ((((scanS r2).1).getD k default).at_))), (3, .o (.string ⟨⟨(((scanS r2).1).getD k default).text.b⟩⟩))] 87 92 [6] [(6, (.int .i64 (((((scanS r2).1).getD k default).at_) + (((((scanS r2).1).getD k default).text.b).length : Int))))] (vA (ql 3 2 (HS.hc hs21 (i := 2) rfl) rfl rfl) (vA (ql 9 1 (HS.hc hs21 (i := 2) rfl) rfl rfl) (vA (vi (n := ((((scanS r2).1).getD k default).at_) + (((((scanS r2).1).getD k default).text.b).length : Int)) (by first | omega | (simp only [List.length_append, List.length_cons, List.length_nil]; omega) | (simp only [List.length_take, List.length_drop]; omega))) trivial))) (by kernel_rfl) rfl fun gg23 => ?_
      refine wr 1 [] 39 39 [93] [(39, (.int .i64 ((k : Int) + 1)))] (vA (vi (n := (k : Int) + 1) (by first | omega | (simp only [List.length_append, List.length_cons, List.length_nil]; omega) | (simp only [List.length_take, List.length_drop]; omega))) trivial) (by kernel_rfl) rfl fun gg24 => ?_
      refine ih13 _ _ _ ?_ ⟨k + 1, ((((scanS r2).1).getD k default).at_) + (((((scanS r2).1).getD k default).text.b).length : Int), _, (Fz.le_trans hF13 (Fz.le_refl _)), (HS.sub hs21 (List.sublist_append_left _ _)), (agC rfl (agC rfl (agC rfl (agC rfl (agC rfl agN))))), rfl, (by first | assumption | omega | (simp at *; omega)), (by exact off_step hof), (by first | assumption | omega | (simp at *; omega))⟩
      omega
    · have c15 := c15b
      try simp only [BS] at c15
      have hoe := (off_end h2 (by omega)).1
      refine wr 1 [(3, .o (.bool (blankN false (r2.drop at_.toNat)))), (5, .o (.bool true))] 94 100 [2] [(2, (.bool (blankN false (r2.drop at_.toNat) && true)))] (vA (vA (show (0 : Int) ≤ at_ from by first | omega | (simp only [List.length_append, List.length_cons, List.length_nil]; omega) | (simp only [List.length_take, List.length_drop]; omega)) (show at_ ≤ (((r2 : List UInt8).length : Nat) : Int) from by first | omega | (simp only [List.length_append, List.length_cons, List.length_nil]; omega) | (simp only [List.length_take, List.length_drop]; omega))) (vA (blank_c_q 6 (r2.drop at_.toNat) H13 (by first | omega | (simp only [List.length_append, List.length_cons, List.length_nil]; omega) | (simp only [List.length_take, List.length_drop]; omega))) (vA (fun (g1 : (blankN false (r2.drop at_.toNat)) = true) => (ex_c_q 6 H13)) trivial))) (by kernel_rfl) rfl fun gg25 => ?_
      refine wk_ret ⟨.inr rfl, _, rfl, (blankN false (r2.drop at_.toNat) && true), _, (Fz.le_trans (Fz.le_trans (hF2) hF3) hF13), (HS.forget hs13), rfl, (by rw [(off_end h2 (by omega)).2]; rfl)⟩

theorem respN_take (l : List Token) : ∀ k, (respN (l.take k)).length ≤ (respN l).length
  | 0 => by simp [respN]
  | k + 1 => by
    cases l with
    | nil => simp
    | cons t l => have := respN_take l k; simp only [List.take_succ_cons, respN, List.length_cons, List.length_append]; omega
theorem resp_len {s : List UInt8} (hl : s.length ≤ 600) : (respN (scanS s).1).length ≤ 1200 := by
  rw [scanS, if_neg (by omega)]
  have := scan_toks (s := s) (s.length + 1) (spl false s)
  have h := respN_len _ this.1
  rcases this.2 with h1 | h1
  · omega
  · rw [h1]; simp [respN]
theorem resp_step {l : List Token} {k : Nat} {u : List UInt8} (hk : k < l.length) (h : u = respN (l.take k)) : (u ++ [32]) ++ (l.getD k default).text.b = respN (l.take (k + 1)) := by
  have e : l.take (k + 1) = l.take k ++ [l.getD k default] := by
    rw [List.take_add_one, List.getD_eq_getElem?_getD, List.getElem?_eq_getElem hk]; rfl
  rw [e, respN_app, h]; simp [respN]
theorem resp_all {s y : List UInt8} {u : List UInt8} {k : Nat} (hl : s.length ≤ 600) (h : (scanS s).2.1 = 0) (hy : y.length ≤ 101 ∧ ∀ c ∈ y, c ≠ 10) (hu : u = respN ((scanS s).1.take k)) (hk : ¬ k < (scanS s).1.length) :
    (scanS ((u ++ [32, 35, 32]) ++ y)).2.1 = 0 ∧ (scanS ((u ++ [32, 35, 32]) ++ y)).1.length = (scanS s).1.length ∧ ∀ i, ((scanS ((u ++ [32, 35, 32]) ++ y)).1.getD i default).kind = ((scanS s).1.getD i default).kind ∧ ((scanS ((u ++ [32, 35, 32]) ++ y)).1.getD i default).text = ((scanS s).1.getD i default).text := by
  rw [List.take_of_length_le (by omega)] at hu
  subst hu
  obtain ⟨b, h1, h2, h3⟩ := respaced hl h hy.2 (by omega)
  rw [h1]; exact ⟨rfl, h2, h3⟩

theorem tok_len {l : List Token} {n k : Nat} (h : (respN l).length ≤ n) : (l.getD k default).text.b.length ≤ n := by
  refine Nat.le_trans ?_ h
  clear h
  induction l generalizing k with
  | nil => simp; exact Nat.zero_le _
  | cons t l ih =>
    simp only [respN, List.length_cons, List.length_append]
    cases k with
    | zero => simp only [List.getD_cons_zero]; omega
    | succ k => have := @ih k; simp only [List.getD_cons_succ]; omega
theorem resp_c2 {s x : List UInt8} {q : Prop} (h : (scanS x).2.1 = 0 ∧ (scanS x).1.length = (scanS s).1.length ∧ q) : ((scanS x).2.1 != 0 || (((scanS s).1.length : Int) != ((scanS x).1.length : Int))) = false := by
  rw [h.1, h.2.1]; simp
theorem resp_c4 {s x : List UInt8} {k : Nat} {p q : Prop} (h : p ∧ q ∧ ∀ i, ((scanS x).1.getD i default).kind = ((scanS s).1.getD i default).kind ∧ ((scanS x).1.getD i default).text = ((scanS s).1.getD i default).text) : (((scanS s).1.getD k default).kind != ((scanS x).1.getD k default).kind || ((scanS s).1.getD k default).text.b != ((scanS x).1.getD k default).text.b) = false := by
  rw [(h.2.2 k).1, (h.2.2 k).2]; simp

theorem respaced_c {a_l : Option Addr} {k_l : Nat} (l : List Int) (note : List UInt8) {F : Fz} {H : Heap} {R : List Fp} (hs : HS (.of H []) F H [] R) (hl : SR F (.slice a_l l.length k_l) l) : C Try.prog 0 (KX 6) 9 [(.slice a_l l.length k_l), (.string ⟨⟨note⟩⟩)] H fun v H' => ∃ (r : Bool) (F' : Fz), Fz.le F F' ∧ HS (.of H []) F' H' [] R ∧ v = .bool r ∧ r = true := by
  refine c_enter Try.func9 rfl rfl ?_
  refine wk_foc 1 rfl ?_
  refine wr 2 [] 4 4 [] [(4, (.bool false))] trivial (by kernel_rfl) rfl fun gg1 => ?_
  refine wk_region ?_
  refine wm (.slice a_l l.length k_l) rfl rfl rfl ?_
  refine wo_call (ap_call rfl rfl rfl) rfl rfl (pieces_c 6 l (HS.call hs) hl) ?_
  rintro _ H2 ⟨r2, F2, hF2, hs2, rfl, h2⟩
  replace hs2 := HS.back hs rfl hs2
  have hs2 : HS (Base.of H []) F2 H2 [] R := hs2
  replace hl := hl.mono hF2
  refine wo_call (ap_call rfl rfl rfl) rfl rfl (l1.scan_c 6 r2 (HS.call hs2) (by first | omega | (simp only [List.length_append, List.length_cons, List.length_nil]; omega))) ?_
  rintro _ H3 ⟨al3, kl3, l3, p3, e3, F3, hF3, hs3, rfl, hrl3, hge3_0, hge3_1, rfl, rfl⟩
  replace hs3 := HS.back hs2 rfl hs3
  have hs3 : HS (Base.of H []) F3 H3 [p3] R := hs3
  replace hl := hl.mono hF3
  refine wro 3 3 [] 17 18 [13] [(17, (.slice al3 ((scanS r2).1).length kl3)), (18, (.agg ⟨[(.int .i64 ((ErrT.mk (scanS r2).2.1 (scanS r2).2.2).why)), (.int .i64 ((ErrT.mk (scanS r2).2.1 (scanS r2).2.2).at_))]⟩))] trivial (by kernel_rfl) rfl fun gg4 => ?_
  refine wo_rs (rs_new hs3 rfl) rfl rfl ?_
  rintro _ H6 _ ⟨b5, rfl, hs6, _⟩
  have hs6 : HS (Base.of H []) F3 H6 [p3, [(b5, .cells [(.int .i64 0), (.int .i64 0)] none false)]] R := hs6
  refine wa (.slice al3 ((scanS r2).1).length kl3) rfl rfl rfl ?_
  refine wo_rk (rs_rec (q := 1) hs6 rfl rfl rfl rfl rfl rfl rfl rfl rfl) rfl ?_
  rintro _ H7 _ ⟨hs7, _⟩
  have hs7 : HS (Base.of H []) F3 H7 [p3, [(b5, .cells [(.int .i64 ((ErrT.mk (scanS r2).2.1 (scanS r2).2.2).why)), (.int .i64 ((ErrT.mk (scanS r2).2.1 (scanS r2).2.2).at_))] none false)]] R := hs7
  refine wo_end 3 rfl ?_
  refine wr 1 [(1, .o (.int .i64 ((ErrT.mk (scanS r2).2.1 (scanS r2).2.2).why)))] 19 21 [] [(21, (.bool ((ErrT.mk (scanS r2).2.1 (scanS r2).2.2).why != 0)))] (vA (ql 36 0 (HS.hc hs7 (i := 1) rfl) rfl rfl) trivial) (by kernel_rfl) rfl fun gg8 => ?_
  refine wk_if 1 2 (v := ((ErrT.mk (scanS r2).2.1 (scanS r2).2.2).why != 0)) rfl rfl rfl rfl (fun c9b => ?_) (fun c9b => ?_)
  · have c9 := c9b
    try simp only [BS] at c9
    have e0 := c9
    refine wr 1 [(0, .o (.bool true))] 4 4 [22] [(4, (.bool true))] (vA (ex_c_q 6 H7) trivial) (by kernel_rfl) rfl fun gg10 => ?_
    refine wk_ret ⟨.inr rfl, _, rfl, true, _, (Fz.le_trans (hF2) hF3), (HS.forget hs7), rfl, (by first | rfl | omega | simp_all)⟩
  · have c9 := c9b
    try simp only [BS] at c9
    have e0 := c9
    have hsl := scan_len (s := r2) (by omega)
    have hrl := resp_len (s := r2) (by omega)
    refine wr 3 [] 1 0 [7] [(7, (.string ⟨⟨[]⟩⟩))] trivial (by kernel_rfl) rfl fun gg11 => ?_
    refine wr 2 [] 23 25 [] [(23, (.slice al3 ((scanS r2).1).length kl3)), (24, (.int .i64 (((scanS r2).1).length : Int))), (25, (.int .i64 0))] trivial (by kernel_rfl) rfl fun gg12 => ?_
    refine wk_loop_inv (fun (mm : Nat) f H' => ∃ (k : Nat) (u : List UInt8) (F' : Fz), Fz.le F3 F' ∧ HS (Base.of H []) F' H' [p3, [(b5, .cells [(.int .i64 ((ErrT.mk (scanS r2).2.1 (scanS r2).2.2).why)), (.int .i64 ((ErrT.mk (scanS r2).2.1 (scanS r2).2.2).at_))] none false)]] R ∧ agrees f [(1, (.string ⟨⟨note⟩⟩)), (4, (.bool false)), (5, (.slice al3 ((scanS r2).1).length kl3)), (7, (.string ⟨⟨u⟩⟩)), (23, (.slice al3 ((scanS r2).1).length kl3)), (24, (.int .i64 (((scanS r2).1).length : Int))), (25, (.int .i64 (k : Int)))] ∧ mm = ((scanS r2).1).length - k ∧ (k ≤ ((scanS r2).1).length) ∧ (u = respN (((scanS r2).1).take k))) _ ⟨0, [], _, (Fz.le_refl _), hs7, (agC rfl (agC rfl (agC rfl (agC rfl (agC rfl (agC rfl (agC rfl agN))))))), rfl, (by first | assumption | omega | (simp at *; omega)), (by rfl)⟩ ?_
    rintro mm13 f13 H13 ⟨k, u, F13, hF13, hs13, hf13, rfl, h1, h2⟩ ih13
    refine wk_canon _ hf13 (fun gg13 => ?_)
    clear hf13
    replace hrl3 := hrl3.mono hF13
    have hul : u.length ≤ 1200 := by rw [h2]; exact Nat.le_trans (respN_take _ _) hrl
    have htl : ((scanS r2).1.getD k default).text.b.length ≤ 1200 := tok_len hrl
    refine wk_foc 1 rfl ?_
    refine wr 2 [] 26 26 [] [(26, (.bool (decide ((k : Int) < (((scanS r2).1).length : Int)))))] trivial (by kernel_rfl) rfl fun gg14 => ?_
    refine wk_if 4 5 (v := (decide ((k : Int) < (((scanS r2).1).length : Int)))) rfl rfl rfl rfl (fun c15b => ?_) (fun c15b => ?_)
    · have c15 := c15b
      try simp only [BS] at c15
      refine wk_region ?_
      obtain ⟨cf16, hv16⟩ := Sv.view (OS.sv hrl3 hs13 (i := 0) rfl)
      obtain ⟨g17_0, g17_2⟩ := Token.fx (hv16 k)
      refine wro 2 0 [(1, .o (.agg ⟨[(.int .i64 ((((scanS r2).1).getD k default).kind)), (.string ⟨⟨(((scanS r2).1).getD k default).text.b⟩⟩), (.int .i64 ((((scanS r2).1).getD k default).at_))]⟩))] 27 28 [] [(28, (.agg ⟨[(.int .i64 ((((scanS r2).1).getD k default).kind)), (.string ⟨⟨(((scanS r2).1).getD k default).text.b⟩⟩), (.int .i64 ((((scanS r2).1).getD k default).at_))]⟩))] (vA (Sv.ix (j := (k : Int)) (OS.sv hrl3 hs13 (i := 0) rfl) (by first | omega | (simp only [List.length_append, List.length_cons, List.length_nil]; omega) | (simp only [List.length_take, List.length_drop]; omega)) (by first | omega | (simp only [List.length_append, List.length_cons, List.length_nil]; omega) | (simp only [List.length_take, List.length_drop]; omega))) (vA (qn 43 0 3 (Token.vw (hv16 k) (by first | omega | (simp only [List.length_append, List.length_cons, List.length_nil]; omega) | (simp only [List.length_take, List.length_drop]; omega))) rfl rfl rfl rfl) trivial)) (by kernel_rfl) rfl fun gg18 => ?_
      refine wo_rs (rs_new hs13 rfl) rfl rfl ?_
      rintro _ H20 _ ⟨b19, rfl, hs20, _⟩
      have hs20 : HS (Base.of H []) F13 H20 [p3, [(b5, .cells [(.int .i64 ((ErrT.mk (scanS r2).2.1 (scanS r2).2.2).why)), (.int .i64 ((ErrT.mk (scanS r2).2.1 (scanS r2).2.2).at_))] none false)], [(b19, .cells [(.int .i64 0), (.string ⟨⟨[]⟩⟩), (.int .i64 0)] none false)]] R := hs20
      refine wo_rk (rs_rec (q := 2) hs20 rfl rfl rfl rfl rfl rfl rfl rfl rfl) rfl ?_
      rintro _ H21 _ ⟨hs21, _⟩
      have hs21 : HS (Base.of H []) F13 H21 [p3, [(b5, .cells [(.int .i64 ((ErrT.mk (scanS r2).2.1 (scanS r2).2.2).why)), (.int .i64 ((ErrT.mk (scanS r2).2.1 (scanS r2).2.2).at_))] none false)], [(b19, .cells [(.int .i64 ((((scanS r2).1).getD k default).kind)), (.string ⟨⟨(((scanS r2).1).getD k default).text.b⟩⟩), (.int .i64 ((((scanS r2).1).getD k default).at_))] none false)]] R := hs21
      refine wo_end 1 rfl ?_
      refine wr 2 [(3, .o (.string ⟨⟨(((scanS r2).1).getD k default).text.b⟩⟩))] 29 33 [7] [(7, (.string ⟨⟨(u ++ [32]) ++ ((((scanS r2).1).getD k default).text.b)⟩⟩))] (vA (show (u : List UInt8).length + ([32] : List UInt8).length ≤ 1099511627776 from by first | omega | (simp only [List.length_append, List.length_cons, List.length_nil]; omega) | (simp only [List.length_take, List.length_drop]; omega)) (vA (ql 9 1 (HS.hc hs21 (i := 2) rfl) rfl rfl) (vA (show (u ++ [32] : List UInt8).length + ((((scanS r2).1).getD k default).text.b : List UInt8).length ≤ 1099511627776 from by first | omega | (simp only [List.length_append, List.length_cons, List.length_nil]; omega) | (simp only [List.length_take, List.length_drop]; omega)) trivial))) (by kernel_rfl) rfl fun gg22 => ?_
      refine wr 1 [] 25 25 [34] [(25, (.int .i64 ((k : Int) + 1)))] (vA (vi (n := (k : Int) + 1) (by first | omega | (simp only [List.length_append, List.length_cons, List.length_nil]; omega) | (simp only [List.length_take, List.length_drop]; omega))) trivial) (by kernel_rfl) rfl fun gg23 => ?_
      refine ih13 _ _ _ ?_ ⟨k + 1, (u ++ [32]) ++ ((((scanS r2).1).getD k default).text.b), _, (Fz.le_trans hF13 (Fz.le_refl _)), (HS.sub hs21 (List.sublist_append_left _ _)), (agC rfl (agC rfl (agC rfl (agC rfl (agC rfl (agC rfl (agC rfl agN))))))), rfl, (by first | assumption | omega | (simp at *; omega)), (by exact resp_step (by omega) h2)⟩
      omega
    · have c15 := c15b
      try simp only [BS] at c15
      refine wk_region ?_
      refine wro 3 0 [] 36 38 [] [(37, (.string ⟨⟨u ++ [32, 35, 32]⟩⟩)), (38, (.string ⟨⟨note⟩⟩))] (vA (show (u : List UInt8).length + ([32, 35, 32] : List UInt8).length ≤ 1099511627776 from by first | omega | (simp only [List.length_append, List.length_cons, List.length_nil]; omega) | (simp only [List.length_take, List.length_drop]; omega)) trivial) (by kernel_rfl) rfl fun gg24 => ?_
      refine wo_call (ap_call rfl rfl rfl) rfl rfl (line_c 6 note _) ?_
      rintro _ H13 ⟨r25, rfl, rfl, h25⟩
      refine wro 1 4 [] 40 40 [] [(40, (.string ⟨⟨(u ++ [32, 35, 32]) ++ r25⟩⟩))] (vA (show (u ++ [32, 35, 32] : List UInt8).length + (r25 : List UInt8).length ≤ 1099511627776 from by first | omega | (simp only [List.length_append, List.length_cons, List.length_nil]; omega) | (simp only [List.length_take, List.length_drop]; omega)) trivial) (by kernel_rfl) rfl fun gg26 => ?_
      refine wo_call (ap_call rfl rfl rfl) rfl rfl (l1.scan_c 6 ((u ++ [32, 35, 32]) ++ r25) (HS.call hs13) (by first | omega | (simp only [List.length_append, List.length_cons, List.length_nil]; omega))) ?_
      rintro _ H27 ⟨al27, kl27, l27, p27, e27, F27, hF27, hs27, rfl, hrl27, hge27_0, hge27_1, rfl, rfl⟩
      replace hs27 := HS.back hs13 rfl hs27
      have hs27 : HS (Base.of H []) F27 H27 [p3, [(b5, .cells [(.int .i64 ((ErrT.mk (scanS r2).2.1 (scanS r2).2.2).why)), (.int .i64 ((ErrT.mk (scanS r2).2.1 (scanS r2).2.2).at_))] none false)], p27] R := hs27
      replace hrl3 := hrl3.mono hF27
      refine wro 3 6 [] 42 43 [35] [(42, (.slice al27 ((scanS ((u ++ [32, 35, 32]) ++ r25)).1).length kl27)), (43, (.agg ⟨[(.int .i64 ((ErrT.mk (scanS ((u ++ [32, 35, 32]) ++ r25)).2.1 (scanS ((u ++ [32, 35, 32]) ++ r25)).2.2).why)), (.int .i64 ((ErrT.mk (scanS ((u ++ [32, 35, 32]) ++ r25)).2.1 (scanS ((u ++ [32, 35, 32]) ++ r25)).2.2).at_))]⟩))] trivial (by kernel_rfl) rfl fun gg28 => ?_
      refine wo_rs (rs_new hs27 rfl) rfl rfl ?_
      rintro _ H30 _ ⟨b29, rfl, hs30, _⟩
      have hs30 : HS (Base.of H []) F27 H30 [p3, [(b5, .cells [(.int .i64 ((ErrT.mk (scanS r2).2.1 (scanS r2).2.2).why)), (.int .i64 ((ErrT.mk (scanS r2).2.1 (scanS r2).2.2).at_))] none false)], p27, [(b29, .cells [(.int .i64 0), (.int .i64 0)] none false)]] R := hs30
      refine wa (.slice al27 ((scanS ((u ++ [32, 35, 32]) ++ r25)).1).length kl27) rfl rfl rfl ?_
      refine wo_rk (rs_rec (q := 3) hs30 rfl rfl rfl rfl rfl rfl rfl rfl rfl) rfl ?_
      rintro _ H31 _ ⟨hs31, _⟩
      have hs31 : HS (Base.of H []) F27 H31 [p3, [(b5, .cells [(.int .i64 ((ErrT.mk (scanS r2).2.1 (scanS r2).2.2).why)), (.int .i64 ((ErrT.mk (scanS r2).2.1 (scanS r2).2.2).at_))] none false)], p27, [(b29, .cells [(.int .i64 ((ErrT.mk (scanS ((u ++ [32, 35, 32]) ++ r25)).2.1 (scanS ((u ++ [32, 35, 32]) ++ r25)).2.2).why)), (.int .i64 ((ErrT.mk (scanS ((u ++ [32, 35, 32]) ++ r25)).2.1 (scanS ((u ++ [32, 35, 32]) ++ r25)).2.2).at_))] none false)]] R := hs31
      refine wo_end 3 rfl ?_
      refine wr 1 [(1, .o (.int .i64 ((ErrT.mk (scanS ((u ++ [32, 35, 32]) ++ r25)).2.1 (scanS ((u ++ [32, 35, 32]) ++ r25)).2.2).why)))] 44 53 [] [(53, (.bool (((ErrT.mk (scanS ((u ++ [32, 35, 32]) ++ r25)).2.1 (scanS ((u ++ [32, 35, 32]) ++ r25)).2.2).why != 0) || ((((scanS r2).1).length : Int) != (((scanS ((u ++ [32, 35, 32]) ++ r25)).1).length : Int)))))] (vA (ql 36 0 (HS.hc hs31 (i := 3) rfl) rfl rfl) trivial) (by kernel_rfl) rfl fun gg32 => ?_
      refine wk_iff 3 (v := (((ErrT.mk (scanS ((u ++ [32, 35, 32]) ++ r25)).2.1 (scanS ((u ++ [32, 35, 32]) ++ r25)).2.2).why != 0) || ((((scanS r2).1).length : Int) != (((scanS ((u ++ [32, 35, 32]) ++ r25)).1).length : Int)))) rfl (by exact resp_c2 (resp_all (by omega) e0 (by assumption) h2 (by omega))) rfl rfl ?_
      refine wr 2 [] 54 56 [] [(55, (.int .i64 (((scanS r2).1).length : Int))), (56, (.int .i64 0))] trivial (by kernel_rfl) rfl fun gg33 => ?_
      refine wk_loop_inv (fun (mm : Nat) f H' => ∃ (k2 : Nat) (F' : Fz), Fz.le F27 F' ∧ HS (Base.of H []) F' H' [p3, [(b5, .cells [(.int .i64 ((ErrT.mk (scanS r2).2.1 (scanS r2).2.2).why)), (.int .i64 ((ErrT.mk (scanS r2).2.1 (scanS r2).2.2).at_))] none false)], p27, [(b29, .cells [(.int .i64 ((ErrT.mk (scanS ((u ++ [32, 35, 32]) ++ r25)).2.1 (scanS ((u ++ [32, 35, 32]) ++ r25)).2.2).why)), (.int .i64 ((ErrT.mk (scanS ((u ++ [32, 35, 32]) ++ r25)).2.1 (scanS ((u ++ [32, 35, 32]) ++ r25)).2.2).at_))] none false)]] R ∧ agrees f [(5, (.slice al3 ((scanS r2).1).length kl3)), (10, (.slice al27 ((scanS ((u ++ [32, 35, 32]) ++ r25)).1).length kl27)), (55, (.int .i64 (((scanS r2).1).length : Int))), (56, (.int .i64 (k2 : Int)))] ∧ mm = ((scanS r2).1).length - k2 ∧ (k2 ≤ ((scanS r2).1).length)) _ ⟨0, _, (Fz.le_refl _), hs31, (agC rfl (agC rfl (agC rfl (agC rfl agN)))), rfl, (by first | assumption | omega | (simp at *; omega))⟩ ?_
      rintro mm34 f34 H34 ⟨k2, F34, hF34, hs34, hf34, rfl, h4⟩ ih34
      refine wk_canon _ hf34 (fun gg34 => ?_)
      clear hf34
      replace hrl27 := hrl27.mono hF34
      replace hrl3 := hrl3.mono hF34
      refine wk_foc 1 rfl ?_
      refine wr 2 [] 57 57 [] [(57, (.bool (decide ((k2 : Int) < (((scanS r2).1).length : Int)))))] trivial (by kernel_rfl) rfl fun gg35 => ?_
      refine wk_if 4 5 (v := (decide ((k2 : Int) < (((scanS r2).1).length : Int)))) rfl rfl rfl rfl (fun c36b => ?_) (fun c36b => ?_)
      · have c36 := c36b
        try simp only [BS] at c36
        have hbl := (resp_all (s := r2) (by omega) e0 (by assumption) h2 (by omega)).2.1
        refine wr 2 [] 58 58 [12] [(12, (.int .i64 (k2 : Int)))] trivial (by kernel_rfl) rfl fun gg37 => ?_
        obtain ⟨cf38, hv38⟩ := Sv.view (OS.sv hrl3 hs34 (i := 0) rfl)
        obtain ⟨g39_0, g39_2⟩ := Token.fx (hv38 k2)
        obtain ⟨cf40, hv40⟩ := Sv.view (OS.sv hrl27 hs34 (i := 2) rfl)
        obtain ⟨g41_0, g41_2⟩ := Token.fx (hv40 k2)
        refine wrD 1 [(4, .o (.int .i64 ((((scanS r2).1).getD k2 default).kind))), (9, .o (.int .i64 ((((scanS ((u ++ [32, 35, 32]) ++ r25)).1).getD k2 default).kind))), (16, .o (.string ⟨⟨(((scanS r2).1).getD k2 default).text.b⟩⟩)), (21, .o (.string ⟨⟨(((scanS ((u ++ [32, 35, 32]) ++ r25)).1).getD k2 default).text.b⟩⟩))] 59 82 [] [(82, (.bool (((((scanS r2).1).getD k2 default).kind != (((scanS ((u ++ [32, 35, 32]) ++ r25)).1).getD k2 default).kind) || (((((scanS r2).1).getD k2 default).text.b) != ((((scanS ((u ++ [32, 35, 32]) ++ r25)).1).getD k2 default).text.b)))))] (vA (Sv.ix (j := (k2 : Int)) (OS.sv hrl3 hs34 (i := 0) rfl) (by first | omega | (simp only [List.length_append, List.length_cons, List.length_nil]; omega) | (simp only [List.length_take, List.length_drop]; omega)) (by first | omega | (simp only [List.length_append, List.length_cons, List.length_nil]; omega) | (simp only [List.length_take, List.length_drop]; omega))) (vA (ql 3 0 (hc0 (Token.vw (hv38 k2) (by first | omega | (simp only [List.length_append, List.length_cons, List.length_nil]; omega) | (simp only [List.length_take, List.length_drop]; omega)))) rfl rfl) (vA (Sv.ix (j := (k2 : Int)) (OS.sv hrl27 hs34 (i := 2) rfl) (by first | omega | (simp only [List.length_append, List.length_cons, List.length_nil]; omega) | (simp only [List.length_take, List.length_drop]; omega)) (by first | omega | (simp only [List.length_append, List.length_cons, List.length_nil]; omega) | (simp only [List.length_take, List.length_drop]; omega))) (vA (ql 3 0 (hc0 (Token.vw (hv40 k2) (by first | omega | (simp only [List.length_append, List.length_cons, List.length_nil]; omega) | (simp only [List.length_take, List.length_drop]; omega)))) rfl rfl) (vA (fun (g1 : ((((scanS r2).1).getD k2 default).kind != (((scanS ((u ++ [32, 35, 32]) ++ r25)).1).getD k2 default).kind) = false) => (Sv.ix (j := (k2 : Int)) (OS.sv hrl3 hs34 (i := 0) rfl) (by (try simp only [BS] at g1); (first | omega | (simp only [List.length_append, List.length_cons, List.length_nil]; omega) | (simp only [List.length_take, List.length_drop]; omega))) (by (try simp only [BS] at g1); (first | omega | (simp only [List.length_append, List.length_cons, List.length_nil]; omega) | (simp only [List.length_take, List.length_drop]; omega))))) (vA (fun (g1 : ((((scanS r2).1).getD k2 default).kind != (((scanS ((u ++ [32, 35, 32]) ++ r25)).1).getD k2 default).kind) = false) => (ql 9 1 (hc0 (Token.vw (hv38 k2) (by (try simp only [BS] at g1); (first | omega | (simp only [List.length_append, List.length_cons, List.length_nil]; omega) | (simp only [List.length_take, List.length_drop]; omega))))) rfl rfl)) (vA (fun (g1 : ((((scanS r2).1).getD k2 default).kind != (((scanS ((u ++ [32, 35, 32]) ++ r25)).1).getD k2 default).kind) = false) => (Sv.ix (j := (k2 : Int)) (OS.sv hrl27 hs34 (i := 2) rfl) (by (try simp only [BS] at g1); (first | omega | (simp only [List.length_append, List.length_cons, List.length_nil]; omega) | (simp only [List.length_take, List.length_drop]; omega))) (by (try simp only [BS] at g1); (first | omega | (simp only [List.length_append, List.length_cons, List.length_nil]; omega) | (simp only [List.length_take, List.length_drop]; omega))))) (vA (fun (g1 : ((((scanS r2).1).getD k2 default).kind != (((scanS ((u ++ [32, 35, 32]) ++ r25)).1).getD k2 default).kind) = false) => (ql 9 1 (hc0 (Token.vw (hv40 k2) (by (try simp only [BS] at g1); (first | omega | (simp only [List.length_append, List.length_cons, List.length_nil]; omega) | (simp only [List.length_take, List.length_drop]; omega))))) rfl rfl)) trivial)))))))) rfl (by kernel_rfl) rfl fun gg42 => ?_
        refine wk_iff 2 (v := (((((scanS r2).1).getD k2 default).kind != (((scanS ((u ++ [32, 35, 32]) ++ r25)).1).getD k2 default).kind) || (((((scanS r2).1).getD k2 default).text.b) != ((((scanS ((u ++ [32, 35, 32]) ++ r25)).1).getD k2 default).text.b)))) rfl (by exact resp_c4 (resp_all (by omega) e0 (by assumption) h2 (by omega))) rfl rfl ?_
        refine wr 1 [] 56 56 [83] [(56, (.int .i64 ((k2 : Int) + 1)))] (vA (vi (n := (k2 : Int) + 1) (by first | omega | (simp only [List.length_append, List.length_cons, List.length_nil]; omega) | (simp only [List.length_take, List.length_drop]; omega))) trivial) (by kernel_rfl) rfl fun gg43 => ?_
        refine ih34 _ _ _ ?_ ⟨k2 + 1, _, (Fz.le_trans hF34 (Fz.le_refl _)), hs34, (agC rfl (agC rfl (agC rfl (agC rfl agN)))), rfl, (by first | assumption | omega | (simp at *; omega))⟩
        omega
      · have c36 := c36b
        try simp only [BS] at c36
        refine wr 1 [(0, .o (.bool true))] 4 4 [84] [(4, (.bool true))] (vA (ex_c_q 6 H34) trivial) (by kernel_rfl) rfl fun gg44 => ?_
        refine wk_ret ⟨.inr rfl, _, rfl, true, _, (Fz.le_trans (Fz.le_trans (Fz.le_trans (Fz.le_trans (hF2) hF3) hF13) hF27) hF34), (HS.forget hs34), rfl, (by first | rfl | omega | simp_all)⟩

theorem off_at {s : List UInt8} : ∀ {l : List Token} {a k : Nat}, offN s a l → 0 ≤ (l.getD k default).at_ ∧ (l.getD k default).at_ ≤ s.length
  | [], _, k, _ => by rw [List.getD_nil]; exact ⟨Int.le_refl _, Int.natCast_nonneg _⟩
  | t :: l, a, 0, h => by
    obtain ⟨⟨h1, _, h3, _⟩, _⟩ := h
    rw [List.getD_cons_zero]; omega
  | t :: l, a, k + 1, h => by rw [List.getD_cons_succ]; exact off_at h.2
theorem cc_all {s t x : List UInt8} (hx : x = (s ++ [10]) ++ t) (h : s.length + t.length + 1 ≤ 20000) : scanS x = thenR (s.length + 1) (scanS s) (scanS t) := by rw [hx]; exact concat_scan h
theorem cc1 {s t : List UInt8} (h : s.length + t.length + 1 ≤ 20000) (e : (scanS s).2.1 ≠ 0) :
    (((((scanS ((s ++ [10]) ++ t)).2.1 == (scanS s).2.1) && (((scanS ((s ++ [10]) ++ t)).2.2 == (scanS s).2.2) && true)) && (((scanS ((s ++ [10]) ++ t)).1.length : Int) == 0)) && true) = true := by
  rw [concat_scan h, thenR, if_neg e, (offsets_err (by omega) e).1]; simp
theorem cc2 {s t : List UInt8} (h : s.length + t.length + 1 ≤ 20000) (e : (scanS s).2.1 = 0) (f : (scanS t).2.1 ≠ 0) :
    (((((scanS ((s ++ [10]) ++ t)).2.1 == (scanS t).2.1) && ((scanS ((s ++ [10]) ++ t)).2.2 == ((scanS t).2.2 + (s.length : Int)) + 1)) && (((scanS ((s ++ [10]) ++ t)).1.length : Int) == 0)) && true) = true := by
  have h1 := offsets_err (s := t) (by omega) f
  have h2 : scanS ((s ++ [10]) ++ t) = ([], (scanS t).2.1, (scanS t).2.2 + ((s.length + 1 : Nat) : Int)) := by
    rw [concat_scan h, thenR, if_pos e, shR, if_neg f, preT, if_neg (by exact f), h1.1]
  rw [h2]; simp; omega
theorem cc0 {s t : List UInt8} (h : s.length + t.length + 1 ≤ 20000) (e : (scanS s).2.1 = 0) (f : (scanS t).2.1 = 0) :
    (scanS ((s ++ [10]) ++ t)).2.1 = 0 ∧ (scanS ((s ++ [10]) ++ t)).1 = (scanS s).1 ++ (scanS t).1.map (shT (s.length + 1)) := by
  rw [concat_scan h, thenR, if_pos e, shR, if_pos f, preT, if_pos (by exact f)]; exact ⟨f, rfl⟩
theorem cc3 {s t : List UInt8} (h : s.length + t.length + 1 ≤ 20000) (e : (scanS s).2.1 = 0) (f : (scanS t).2.1 = 0) :
    ((scanS ((s ++ [10]) ++ t)).2.1 != 0 || (((scanS ((s ++ [10]) ++ t)).1.length : Int) != ((scanS s).1.length : Int) + ((scanS t).1.length : Int))) = false := by
  rw [(cc0 h e f).1, (cc0 h e f).2]; simp
theorem cc4 {s t : List UInt8} {i : Nat} (h : s.length + t.length + 1 ≤ 20000) (e : (scanS s).2.1 = 0) (f : (scanS t).2.1 = 0) :
    ((decide ((i : Int) < ((scanS s).1.length : Int))) && (!((((scanS ((s ++ [10]) ++ t)).1.getD i default).kind == ((scanS s).1.getD i default).kind) && ((((scanS ((s ++ [10]) ++ t)).1.getD i default).text.b == ((scanS s).1.getD i default).text.b) && ((((scanS ((s ++ [10]) ++ t)).1.getD i default).at_ == ((scanS s).1.getD i default).at_) && true))))) = false := by
  by_cases hi : i < (scanS s).1.length
  · have : (scanS ((s ++ [10]) ++ t)).1.getD i default = (scanS s).1.getD i default := by
      rw [(cc0 h e f).2, List.getD_eq_getElem?_getD, List.getD_eq_getElem?_getD, List.getElem?_append_left hi]
    rw [this]; simp
  · have : decide ((i : Int) < ((scanS s).1.length : Int)) = false := by simp; omega
    rw [this]; rfl
theorem cc6 {s t : List UInt8} {i : Nat} (h : s.length + t.length + 1 ≤ 20000) (e : (scanS s).2.1 = 0) (f : (scanS t).2.1 = 0) (h1 : i < (scanS ((s ++ [10]) ++ t)).1.length) (h2 : (scanS s).1.length ≤ i) :
    (((((scanS ((s ++ [10]) ++ t)).1.getD i default).kind != ((scanS t).1.getD (i - (scanS s).1.length) default).kind) || (((scanS ((s ++ [10]) ++ t)).1.getD i default).text.b != ((scanS t).1.getD (i - (scanS s).1.length) default).text.b)) || (((scanS ((s ++ [10]) ++ t)).1.getD i default).at_ != (((scanS t).1.getD (i - (scanS s).1.length) default).at_ + (s.length : Int)) + 1)) = false := by
  have hl : i - (scanS s).1.length < (scanS t).1.length := by
    rw [(cc0 h e f).2] at h1; simp only [List.length_append, List.length_map] at h1; omega
  have : (scanS ((s ++ [10]) ++ t)).1.getD i default = shT (s.length + 1) ((scanS t).1.getD (i - (scanS s).1.length) default) := by
    rw [(cc0 h e f).2, List.getD_eq_getElem?_getD, List.getD_eq_getElem?_getD, List.getElem?_append_right h2, List.getElem?_map, List.getElem?_eq_getElem hl]; rfl
  rw [this]
  simp only [shT, bne_self_eq_false, Bool.false_or, bne_eq_false_iff_eq]
  omega

theorem concat_c {a_l : Option Addr} {k_l : Nat} (l : List Int) {a_m : Option Addr} {k_m : Nat} (m : List Int) {F : Fz} {H : Heap} {R : List Fp} (hs : HS (.of H []) F H [] R) (hl : SR F (.slice a_l l.length k_l) l) (hm : SR F (.slice a_m m.length k_m) m) : C Try.prog 0 (KX 6) 10 [(.slice a_l l.length k_l), (.slice a_m m.length k_m)] H fun v H' => ∃ (r : Bool) (F' : Fz), Fz.le F F' ∧ HS (.of H []) F' H' [] R ∧ v = .bool r ∧ r = true := by
  refine c_enter Try.func10 rfl rfl ?_
  refine wk_foc 1 rfl ?_
  refine wr 2 [] 4 4 [] [(4, (.bool false))] trivial (by kernel_rfl) rfl fun gg1 => ?_
  refine wk_region ?_
  refine wm (.slice a_l l.length k_l) rfl rfl rfl ?_
  refine wo_call (ap_call rfl rfl rfl) rfl rfl (pieces_c 6 l (HS.call hs) hl) ?_
  rintro _ H2 ⟨r2, F2, hF2, hs2, rfl, h2⟩
  replace hs2 := HS.back hs rfl hs2
  have hs2 : HS (Base.of H []) F2 H2 [] R := hs2
  replace hl := hl.mono hF2
  replace hm := hm.mono hF2
  refine wm (.slice a_m m.length k_m) rfl rfl rfl ?_
  refine wo_call (ap_call rfl rfl rfl) rfl rfl (pieces_c 6 m (HS.call hs2) hm) ?_
  rintro _ H3 ⟨r3, F3, hF3, hs3, rfl, h3⟩
  replace hs3 := HS.back hs2 rfl hs3
  have hs3 : HS (Base.of H []) F3 H3 [] R := hs3
  replace hl := hl.mono hF3
  replace hm := hm.mono hF3
  refine wro 2 4 [] 1 0 [5, 6] [(5, (.string ⟨⟨r2⟩⟩)), (6, (.string ⟨⟨r3⟩⟩))] trivial (by kernel_rfl) rfl fun gg4 => ?_
  refine wo_end 2 rfl ?_
  refine wk_region ?_
  refine wm (.string ⟨⟨r2⟩⟩) rfl rfl rfl ?_
  refine wo_call (ap_call rfl rfl rfl) rfl rfl (l1.scan_c 6 r2 (HS.call hs3) (by first | omega | (simp only [List.length_append, List.length_cons, List.length_nil]; omega) | (simp only [List.length_take, List.length_drop]; omega))) ?_
  rintro _ H5 ⟨al5, kl5, l5, p5, e5, F5, hF5, hs5, rfl, hrl5, hge5_0, hge5_1, rfl, rfl⟩
  replace hs5 := HS.back hs3 rfl hs5
  have hs5 : HS (Base.of H []) F5 H5 [p5] R := hs5
  replace hl := hl.mono hF5
  replace hm := hm.mono hF5
  refine wro 3 2 [] 22 23 [19] [(22, (.slice al5 ((scanS r2).1).length kl5)), (23, (.agg ⟨[(.int .i64 ((ErrT.mk (scanS r2).2.1 (scanS r2).2.2).why)), (.int .i64 ((ErrT.mk (scanS r2).2.1 (scanS r2).2.2).at_))]⟩))] trivial (by kernel_rfl) rfl fun gg6 => ?_
  refine wo_rs (rs_new hs5 rfl) rfl rfl ?_
  rintro _ H8 _ ⟨b7, rfl, hs8, _⟩
  have hs8 : HS (Base.of H []) F5 H8 [p5, [(b7, .cells [(.int .i64 0), (.int .i64 0)] none false)]] R := hs8
  refine wa (.slice al5 ((scanS r2).1).length kl5) rfl rfl rfl ?_
  refine wo_rk (rs_rec (q := 1) hs8 rfl rfl rfl rfl rfl rfl rfl rfl rfl) rfl ?_
  rintro _ H9 _ ⟨hs9, _⟩
  have hs9 : HS (Base.of H []) F5 H9 [p5, [(b7, .cells [(.int .i64 ((ErrT.mk (scanS r2).2.1 (scanS r2).2.2).why)), (.int .i64 ((ErrT.mk (scanS r2).2.1 (scanS r2).2.2).at_))] none false)]] R := hs9
  refine wo_end 2 rfl ?_
  refine wk_region ?_
  refine wm (.string ⟨⟨r3⟩⟩) rfl rfl rfl ?_
  refine wo_call (ap_call rfl rfl rfl) rfl rfl (l1.scan_c 6 r3 (HS.call hs9) (by first | omega | (simp only [List.length_append, List.length_cons, List.length_nil]; omega) | (simp only [List.length_take, List.length_drop]; omega))) ?_
  rintro _ H10 ⟨al10, kl10, l10, p10, e10, F10, hF10, hs10, rfl, hrl10, hge10_0, hge10_1, rfl, rfl⟩
  replace hs10 := HS.back hs9 rfl hs10
  have hs10 : HS (Base.of H []) F10 H10 [p5, [(b7, .cells [(.int .i64 ((ErrT.mk (scanS r2).2.1 (scanS r2).2.2).why)), (.int .i64 ((ErrT.mk (scanS r2).2.1 (scanS r2).2.2).at_))] none false)], p10] R := hs10
  replace hl := hl.mono hF10
  replace hm := hm.mono hF10
  replace hrl5 := hrl5.mono hF10
  refine wro 3 2 [] 27 28 [24] [(27, (.slice al10 ((scanS r3).1).length kl10)), (28, (.agg ⟨[(.int .i64 ((ErrT.mk (scanS r3).2.1 (scanS r3).2.2).why)), (.int .i64 ((ErrT.mk (scanS r3).2.1 (scanS r3).2.2).at_))]⟩))] trivial (by kernel_rfl) rfl fun gg11 => ?_
  refine wo_rs (rs_new hs10 rfl) rfl rfl ?_
  rintro _ H13 _ ⟨b12, rfl, hs13, _⟩
  have hs13 : HS (Base.of H []) F10 H13 [p5, [(b7, .cells [(.int .i64 ((ErrT.mk (scanS r2).2.1 (scanS r2).2.2).why)), (.int .i64 ((ErrT.mk (scanS r2).2.1 (scanS r2).2.2).at_))] none false)], p10, [(b12, .cells [(.int .i64 0), (.int .i64 0)] none false)]] R := hs13
  refine wa (.slice al10 ((scanS r3).1).length kl10) rfl rfl rfl ?_
  refine wo_rk (rs_rec (q := 3) hs13 rfl rfl rfl rfl rfl rfl rfl rfl rfl) rfl ?_
  rintro _ H14 _ ⟨hs14, _⟩
  have hs14 : HS (Base.of H []) F10 H14 [p5, [(b7, .cells [(.int .i64 ((ErrT.mk (scanS r2).2.1 (scanS r2).2.2).why)), (.int .i64 ((ErrT.mk (scanS r2).2.1 (scanS r2).2.2).at_))] none false)], p10, [(b12, .cells [(.int .i64 ((ErrT.mk (scanS r3).2.1 (scanS r3).2.2).why)), (.int .i64 ((ErrT.mk (scanS r3).2.1 (scanS r3).2.2).at_))] none false)]] R := hs14
  refine wo_end 2 rfl ?_
  refine wk_region ?_
  refine wro 4 0 [] 30 33 [] [(33, (.string ⟨⟨(r2 ++ [10]) ++ r3⟩⟩))] (vA (show (r2 : List UInt8).length + ([10] : List UInt8).length ≤ 1099511627776 from by first | omega | (simp only [List.length_append, List.length_cons, List.length_nil]; omega) | (simp only [List.length_take, List.length_drop]; omega)) (vA (show (r2 ++ [10] : List UInt8).length + (r3 : List UInt8).length ≤ 1099511627776 from by first | omega | (simp only [List.length_append, List.length_cons, List.length_nil]; omega) | (simp only [List.length_take, List.length_drop]; omega)) trivial)) (by kernel_rfl) rfl fun gg15 => ?_
  refine wo_call (ap_call rfl rfl rfl) rfl rfl (l1.scan_c 6 ((r2 ++ [10]) ++ r3) (HS.call hs14) (by first | omega | (simp only [List.length_append, List.length_cons, List.length_nil]; omega) | (simp only [List.length_take, List.length_drop]; omega))) ?_
  rintro _ H16 ⟨al16, kl16, l16, p16, e16, F16, hF16, hs16, rfl, hrl16, hge16_0, hge16_1, rfl, rfl⟩
  replace hs16 := HS.back hs14 rfl hs16
  have hs16 : HS (Base.of H []) F16 H16 [p5, [(b7, .cells [(.int .i64 ((ErrT.mk (scanS r2).2.1 (scanS r2).2.2).why)), (.int .i64 ((ErrT.mk (scanS r2).2.1 (scanS r2).2.2).at_))] none false)], p10, [(b12, .cells [(.int .i64 ((ErrT.mk (scanS r3).2.1 (scanS r3).2.2).why)), (.int .i64 ((ErrT.mk (scanS r3).2.1 (scanS r3).2.2).at_))] none false)], p16] R := hs16
  replace hl := hl.mono hF16
  replace hm := hm.mono hF16
  replace hrl10 := hrl10.mono hF16
  replace hrl5 := hrl5.mono hF16
  refine wro 3 5 [] 35 36 [29] [(35, (.slice al16 ((scanS ((r2 ++ [10]) ++ r3)).1).length kl16)), (36, (.agg ⟨[(.int .i64 ((ErrT.mk (scanS ((r2 ++ [10]) ++ r3)).2.1 (scanS ((r2 ++ [10]) ++ r3)).2.2).why)), (.int .i64 ((ErrT.mk (scanS ((r2 ++ [10]) ++ r3)).2.1 (scanS ((r2 ++ [10]) ++ r3)).2.2).at_))]⟩))] trivial (by kernel_rfl) rfl fun gg17 => ?_
  refine wo_rs (rs_new hs16 rfl) rfl rfl ?_
  rintro _ H19 _ ⟨b18, rfl, hs19, _⟩
  have hs19 : HS (Base.of H []) F16 H19 [p5, [(b7, .cells [(.int .i64 ((ErrT.mk (scanS r2).2.1 (scanS r2).2.2).why)), (.int .i64 ((ErrT.mk (scanS r2).2.1 (scanS r2).2.2).at_))] none false)], p10, [(b12, .cells [(.int .i64 ((ErrT.mk (scanS r3).2.1 (scanS r3).2.2).why)), (.int .i64 ((ErrT.mk (scanS r3).2.1 (scanS r3).2.2).at_))] none false)], p16, [(b18, .cells [(.int .i64 0), (.int .i64 0)] none false)]] R := hs19
  refine wa (.slice al16 ((scanS ((r2 ++ [10]) ++ r3)).1).length kl16) rfl rfl rfl ?_
  refine wo_rk (rs_rec (q := 5) hs19 rfl rfl rfl rfl rfl rfl rfl rfl rfl) rfl ?_
  rintro _ H20 _ ⟨hs20, _⟩
  have hs20 : HS (Base.of H []) F16 H20 [p5, [(b7, .cells [(.int .i64 ((ErrT.mk (scanS r2).2.1 (scanS r2).2.2).why)), (.int .i64 ((ErrT.mk (scanS r2).2.1 (scanS r2).2.2).at_))] none false)], p10, [(b12, .cells [(.int .i64 ((ErrT.mk (scanS r3).2.1 (scanS r3).2.2).why)), (.int .i64 ((ErrT.mk (scanS r3).2.1 (scanS r3).2.2).at_))] none false)], p16, [(b18, .cells [(.int .i64 ((ErrT.mk (scanS ((r2 ++ [10]) ++ r3)).2.1 (scanS ((r2 ++ [10]) ++ r3)).2.2).why)), (.int .i64 ((ErrT.mk (scanS ((r2 ++ [10]) ++ r3)).2.1 (scanS ((r2 ++ [10]) ++ r3)).2.2).at_))] none false)]] R := hs20
  refine wo_end 3 rfl ?_
  refine wr 1 [(1, .o (.int .i64 ((ErrT.mk (scanS r2).2.1 (scanS r2).2.2).why)))] 37 39 [] [(39, (.bool ((ErrT.mk (scanS r2).2.1 (scanS r2).2.2).why != 0)))] (vA (ql 36 0 (HS.hc hs20 (i := 1) rfl) rfl rfl) trivial) (by kernel_rfl) rfl fun gg21 => ?_
  refine wk_if 1 3 (v := ((ErrT.mk (scanS r2).2.1 (scanS r2).2.2).why != 0)) rfl rfl rfl rfl (fun c22b => ?_) (fun c22b => ?_)
  · have c22 := c22b
    try simp only [BS] at c22
    have e0 := c22
    refine wr 1 [(0, .o (.agg ⟨[(.int .i64 ((ErrT.mk (scanS ((r2 ++ [10]) ++ r3)).2.1 (scanS ((r2 ++ [10]) ++ r3)).2.2).why)), (.int .i64 ((ErrT.mk (scanS ((r2 ++ [10]) ++ r3)).2.1 (scanS ((r2 ++ [10]) ++ r3)).2.2).at_))]⟩)), (1, .o (.agg ⟨[(.int .i64 ((ErrT.mk (scanS r2).2.1 (scanS r2).2.2).why)), (.int .i64 ((ErrT.mk (scanS r2).2.1 (scanS r2).2.2).at_))]⟩)), (2, .o (.bool ((((ErrT.mk (scanS ((r2 ++ [10]) ++ r3)).2.1 (scanS ((r2 ++ [10]) ++ r3)).2.2).why) == ((ErrT.mk (scanS r2).2.1 (scanS r2).2.2).why)) && ((((ErrT.mk (scanS ((r2 ++ [10]) ++ r3)).2.1 (scanS ((r2 ++ [10]) ++ r3)).2.2).at_) == ((ErrT.mk (scanS r2).2.1 (scanS r2).2.2).at_)) && true)))), (9, .o (.bool true))] 40 50 [4] [(4, (.bool ((((((ErrT.mk (scanS ((r2 ++ [10]) ++ r3)).2.1 (scanS ((r2 ++ [10]) ++ r3)).2.2).why) == ((ErrT.mk (scanS r2).2.1 (scanS r2).2.2).why)) && ((((ErrT.mk (scanS ((r2 ++ [10]) ++ r3)).2.1 (scanS ((r2 ++ [10]) ++ r3)).2.2).at_) == ((ErrT.mk (scanS r2).2.1 (scanS r2).2.2).at_)) && true)) && ((((scanS ((r2 ++ [10]) ++ r3)).1).length : Int) == 0)) && true)))] (vA (qn 38 0 2 (HS.hc hs20 (i := 5) rfl) rfl rfl rfl rfl) (vA (qn 38 0 2 (HS.hc hs20 (i := 1) rfl) rfl rfl rfl rfl) (vA (agEq (P := Try.prog) (t := 38) (xs := [(.int .i64 ((ErrT.mk (scanS ((r2 ++ [10]) ++ r3)).2.1 (scanS ((r2 ++ [10]) ++ r3)).2.2).why)), (.int .i64 ((ErrT.mk (scanS ((r2 ++ [10]) ++ r3)).2.1 (scanS ((r2 ++ [10]) ++ r3)).2.2).at_))]) (ys := [(.int .i64 ((ErrT.mk (scanS r2).2.1 (scanS r2).2.2).why)), (.int .i64 ((ErrT.mk (scanS r2).2.1 (scanS r2).2.2).at_))]) (bs := [(((ErrT.mk (scanS ((r2 ++ [10]) ++ r3)).2.1 (scanS ((r2 ++ [10]) ++ r3)).2.2).why) == ((ErrT.mk (scanS r2).2.1 (scanS r2).2.2).why)), (((ErrT.mk (scanS ((r2 ++ [10]) ++ r3)).2.1 (scanS ((r2 ++ [10]) ++ r3)).2.2).at_) == ((ErrT.mk (scanS r2).2.1 (scanS r2).2.2).at_))]) rfl rfl rfl (by kernel_rfl) (by kernel_rfl) (.cons ⟨by decide, _, _, rfl, rfl, eqI rfl⟩ (.cons ⟨by decide, _, _, rfl, rfl, eqI rfl⟩ .nil))) (vA (fun (g1 : (((((ErrT.mk (scanS ((r2 ++ [10]) ++ r3)).2.1 (scanS ((r2 ++ [10]) ++ r3)).2.2).why) == ((ErrT.mk (scanS r2).2.1 (scanS r2).2.2).why)) && ((((ErrT.mk (scanS ((r2 ++ [10]) ++ r3)).2.1 (scanS ((r2 ++ [10]) ++ r3)).2.2).at_) == ((ErrT.mk (scanS r2).2.1 (scanS r2).2.2).at_)) && true)) && ((((scanS ((r2 ++ [10]) ++ r3)).1).length : Int) == 0)) = true) => (ex_c_q 6 H20)) trivial)))) (by kernel_rfl) rfl fun gg23 => ?_
    refine wk_ret ⟨.inr rfl, _, rfl, ((((((ErrT.mk (scanS ((r2 ++ [10]) ++ r3)).2.1 (scanS ((r2 ++ [10]) ++ r3)).2.2).why) == ((ErrT.mk (scanS r2).2.1 (scanS r2).2.2).why)) && ((((ErrT.mk (scanS ((r2 ++ [10]) ++ r3)).2.1 (scanS ((r2 ++ [10]) ++ r3)).2.2).at_) == ((ErrT.mk (scanS r2).2.1 (scanS r2).2.2).at_)) && true)) && ((((scanS ((r2 ++ [10]) ++ r3)).1).length : Int) == 0)) && true), _, (Fz.le_trans (Fz.le_trans (Fz.le_trans (Fz.le_trans (hF2) hF3) hF5) hF10) hF16), (HS.forget hs20), rfl, (by exact cc1 (by omega) e0)⟩
  · have c22 := c22b
    try simp only [BS] at c22
    have e0 := c22
    refine wr 1 [(1, .o (.int .i64 ((ErrT.mk (scanS r3).2.1 (scanS r3).2.2).why)))] 51 53 [] [(53, (.bool ((ErrT.mk (scanS r3).2.1 (scanS r3).2.2).why != 0)))] (vA (ql 36 0 (HS.hc hs20 (i := 3) rfl) rfl rfl) trivial) (by kernel_rfl) rfl fun gg24 => ?_
    refine wk_if 1 3 (v := ((ErrT.mk (scanS r3).2.1 (scanS r3).2.2).why != 0)) rfl rfl rfl rfl (fun c25b => ?_) (fun c25b => ?_)
    · have c25 := c25b
      try simp only [BS] at c25
      have f0 := c25
      have fe := offsets_err (s := r3) (by omega) f0
      refine wr 1 [(1, .o (.int .i64 ((ErrT.mk (scanS ((r2 ++ [10]) ++ r3)).2.1 (scanS ((r2 ++ [10]) ++ r3)).2.2).why))), (3, .o (.int .i64 ((ErrT.mk (scanS r3).2.1 (scanS r3).2.2).why))), (7, .o (.int .i64 ((ErrT.mk (scanS ((r2 ++ [10]) ++ r3)).2.1 (scanS ((r2 ++ [10]) ++ r3)).2.2).at_))), (9, .o (.int .i64 ((ErrT.mk (scanS r3).2.1 (scanS r3).2.2).at_))), (22, .o (.bool true))] 54 77 [4] [(4, (.bool (((((ErrT.mk (scanS ((r2 ++ [10]) ++ r3)).2.1 (scanS ((r2 ++ [10]) ++ r3)).2.2).why == (ErrT.mk (scanS r3).2.1 (scanS r3).2.2).why) && ((ErrT.mk (scanS ((r2 ++ [10]) ++ r3)).2.1 (scanS ((r2 ++ [10]) ++ r3)).2.2).at_ == (((ErrT.mk (scanS r3).2.1 (scanS r3).2.2).at_) + (r2.length : Int)) + 1)) && ((((scanS ((r2 ++ [10]) ++ r3)).1).length : Int) == 0)) && true)))] (vA (ql 36 0 (HS.hc hs20 (i := 5) rfl) rfl rfl) (vA (ql 36 0 (HS.hc hs20 (i := 3) rfl) rfl rfl) (vA (fun (g1 : ((ErrT.mk (scanS ((r2 ++ [10]) ++ r3)).2.1 (scanS ((r2 ++ [10]) ++ r3)).2.2).why == (ErrT.mk (scanS r3).2.1 (scanS r3).2.2).why) = true) => (ql 3 1 (HS.hc hs20 (i := 5) rfl) rfl rfl)) (vA (fun (g1 : ((ErrT.mk (scanS ((r2 ++ [10]) ++ r3)).2.1 (scanS ((r2 ++ [10]) ++ r3)).2.2).why == (ErrT.mk (scanS r3).2.1 (scanS r3).2.2).why) = true) => (ql 3 1 (HS.hc hs20 (i := 3) rfl) rfl rfl)) (vA (fun (g1 : ((ErrT.mk (scanS ((r2 ++ [10]) ++ r3)).2.1 (scanS ((r2 ++ [10]) ++ r3)).2.2).why == (ErrT.mk (scanS r3).2.1 (scanS r3).2.2).why) = true) => (vi (n := ((ErrT.mk (scanS r3).2.1 (scanS r3).2.2).at_) + (r2.length : Int)) (by (try simp only [BS] at g1); (first | omega | (simp only [List.length_append, List.length_cons, List.length_nil]; omega) | (simp only [List.length_take, List.length_drop]; omega))))) (vA (fun (g1 : ((ErrT.mk (scanS ((r2 ++ [10]) ++ r3)).2.1 (scanS ((r2 ++ [10]) ++ r3)).2.2).why == (ErrT.mk (scanS r3).2.1 (scanS r3).2.2).why) = true) => (vi (n := (((ErrT.mk (scanS r3).2.1 (scanS r3).2.2).at_) + (r2.length : Int)) + 1) (by (try simp only [BS] at g1); (first | omega | (simp only [List.length_append, List.length_cons, List.length_nil]; omega) | (simp only [List.length_take, List.length_drop]; omega))))) (vA (fun (g1 : ((((ErrT.mk (scanS ((r2 ++ [10]) ++ r3)).2.1 (scanS ((r2 ++ [10]) ++ r3)).2.2).why == (ErrT.mk (scanS r3).2.1 (scanS r3).2.2).why) && ((ErrT.mk (scanS ((r2 ++ [10]) ++ r3)).2.1 (scanS ((r2 ++ [10]) ++ r3)).2.2).at_ == (((ErrT.mk (scanS r3).2.1 (scanS r3).2.2).at_) + (r2.length : Int)) + 1)) && ((((scanS ((r2 ++ [10]) ++ r3)).1).length : Int) == 0)) = true) => (ex_c_q 6 H20)) trivial))))))) (by kernel_rfl) rfl fun gg26 => ?_
      refine wk_ret ⟨.inr rfl, _, rfl, (((((ErrT.mk (scanS ((r2 ++ [10]) ++ r3)).2.1 (scanS ((r2 ++ [10]) ++ r3)).2.2).why == (ErrT.mk (scanS r3).2.1 (scanS r3).2.2).why) && ((ErrT.mk (scanS ((r2 ++ [10]) ++ r3)).2.1 (scanS ((r2 ++ [10]) ++ r3)).2.2).at_ == (((ErrT.mk (scanS r3).2.1 (scanS r3).2.2).at_) + (r2.length : Int)) + 1)) && ((((scanS ((r2 ++ [10]) ++ r3)).1).length : Int) == 0)) && true), _, (Fz.le_trans (Fz.le_trans (Fz.le_trans (Fz.le_trans (hF2) hF3) hF5) hF10) hF16), (HS.forget hs20), rfl, (by exact cc2 (by omega) e0 f0)⟩
    · have c25 := c25b
      try simp only [BS] at c25
      have f0 := c25
      have c0 := cc0 (s := r2) (t := r3) (by omega) e0 f0
      have cl := congrArg List.length c0.2
      simp only [List.length_append, List.length_map] at cl
      have sl1 := scan_len (s := r2) (by omega)
      have sl2 := scan_len (s := r3) (by omega)
      have oft := fun k => off_at (k := k) (offsets_ok (s := r3) (by omega) (by simpa using f0))
      refine wr 1 [(1, .o (.int .i64 ((ErrT.mk (scanS ((r2 ++ [10]) ++ r3)).2.1 (scanS ((r2 ++ [10]) ++ r3)).2.2).why)))] 78 90 [] [(90, (.bool (((ErrT.mk (scanS ((r2 ++ [10]) ++ r3)).2.1 (scanS ((r2 ++ [10]) ++ r3)).2.2).why != 0) || ((((scanS ((r2 ++ [10]) ++ r3)).1).length : Int) != (((scanS r2).1).length : Int) + (((scanS r3).1).length : Int)))))] (vA (ql 36 0 (HS.hc hs20 (i := 5) rfl) rfl rfl) (vA (fun (g1 : ((ErrT.mk (scanS ((r2 ++ [10]) ++ r3)).2.1 (scanS ((r2 ++ [10]) ++ r3)).2.2).why != 0) = false) => (vi (n := (((scanS r2).1).length : Int) + (((scanS r3).1).length : Int)) (by (try simp only [BS] at g1); (first | omega | (simp only [List.length_append, List.length_cons, List.length_nil]; omega) | (simp only [List.length_take, List.length_drop]; omega))))) trivial)) (by kernel_rfl) rfl fun gg27 => ?_
      refine wk_iff 3 (v := (((ErrT.mk (scanS ((r2 ++ [10]) ++ r3)).2.1 (scanS ((r2 ++ [10]) ++ r3)).2.2).why != 0) || ((((scanS ((r2 ++ [10]) ++ r3)).1).length : Int) != (((scanS r2).1).length : Int) + (((scanS r3).1).length : Int)))) rfl (by exact cc3 (by omega) e0 f0) rfl rfl ?_
      refine wr 2 [] 91 93 [] [(92, (.int .i64 (((scanS ((r2 ++ [10]) ++ r3)).1).length : Int))), (93, (.int .i64 0))] trivial (by kernel_rfl) rfl fun gg28 => ?_
      refine wk_loop_inv (fun (mm : Nat) f H' => ∃ (k : Nat) (F' : Fz), Fz.le F16 F' ∧ HS (Base.of H []) F' H' [p5, [(b7, .cells [(.int .i64 ((ErrT.mk (scanS r2).2.1 (scanS r2).2.2).why)), (.int .i64 ((ErrT.mk (scanS r2).2.1 (scanS r2).2.2).at_))] none false)], p10, [(b12, .cells [(.int .i64 ((ErrT.mk (scanS r3).2.1 (scanS r3).2.2).why)), (.int .i64 ((ErrT.mk (scanS r3).2.1 (scanS r3).2.2).at_))] none false)], p16, [(b18, .cells [(.int .i64 ((ErrT.mk (scanS ((r2 ++ [10]) ++ r3)).2.1 (scanS ((r2 ++ [10]) ++ r3)).2.2).why)), (.int .i64 ((ErrT.mk (scanS ((r2 ++ [10]) ++ r3)).2.1 (scanS ((r2 ++ [10]) ++ r3)).2.2).at_))] none false)]] R ∧ agrees f [(5, (.string ⟨⟨r2⟩⟩)), (7, (.slice al5 ((scanS r2).1).length kl5)), (9, (.slice al10 ((scanS r3).1).length kl10)), (11, (.slice al16 ((scanS ((r2 ++ [10]) ++ r3)).1).length kl16)), (92, (.int .i64 (((scanS ((r2 ++ [10]) ++ r3)).1).length : Int))), (93, (.int .i64 (k : Int)))] ∧ mm = ((scanS ((r2 ++ [10]) ++ r3)).1).length - k ∧ (k ≤ ((scanS ((r2 ++ [10]) ++ r3)).1).length)) _ ⟨0, _, (Fz.le_refl _), hs20, (agC rfl (agC rfl (agC rfl (agC rfl (agC rfl (agC rfl agN)))))), rfl, (by first | assumption | omega | (simp at *; omega))⟩ ?_
      rintro mm29 f29 H29 ⟨k, F29, hF29, hs29, hf29, rfl, h1⟩ ih29
      refine wk_canon _ hf29 (fun gg29 => ?_)
      clear hf29
      replace hrl10 := hrl10.mono hF29
      replace hrl16 := hrl16.mono hF29
      replace hrl5 := hrl5.mono hF29
      refine wk_foc 1 rfl ?_
      refine wr 2 [] 94 94 [] [(94, (.bool (decide ((k : Int) < (((scanS ((r2 ++ [10]) ++ r3)).1).length : Int)))))] trivial (by kernel_rfl) rfl fun gg30 => ?_
      refine wk_if 4 5 (v := (decide ((k : Int) < (((scanS ((r2 ++ [10]) ++ r3)).1).length : Int)))) rfl rfl rfl rfl (fun c31b => ?_) (fun c31b => ?_)
      · have c31 := c31b
        try simp only [BS] at c31
        refine wr 3 [] 95 95 [13] [(13, (.int .i64 (k : Int)))] trivial (by kernel_rfl) rfl fun gg32 => ?_
        obtain ⟨cf33, hv33⟩ := Sv.view (OS.sv hrl16 hs29 (i := 4) rfl)
        obtain ⟨g34_0, g34_2⟩ := Token.fx (hv33 k)
        obtain ⟨cf35, hv35⟩ := Sv.view (OS.sv hrl5 hs29 (i := 0) rfl)
        obtain ⟨g36_0, g36_2⟩ := Token.fx (hv35 k)
        refine wrD 1 [(8, .o (.agg ⟨[(.int .i64 ((((scanS ((r2 ++ [10]) ++ r3)).1).getD k default).kind)), (.string ⟨⟨(((scanS ((r2 ++ [10]) ++ r3)).1).getD k default).text.b⟩⟩), (.int .i64 ((((scanS ((r2 ++ [10]) ++ r3)).1).getD k default).at_))]⟩)), (12, .o (.agg ⟨[(.int .i64 ((((scanS r2).1).getD k default).kind)), (.string ⟨⟨(((scanS r2).1).getD k default).text.b⟩⟩), (.int .i64 ((((scanS r2).1).getD k default).at_))]⟩)), (13, .o (.bool (!((((((scanS ((r2 ++ [10]) ++ r3)).1).getD k default).kind) == ((((scanS r2).1).getD k default).kind)) && ((((((scanS ((r2 ++ [10]) ++ r3)).1).getD k default).text.b : List UInt8) == ((((scanS r2).1).getD k default).text.b : List UInt8)) && ((((((scanS ((r2 ++ [10]) ++ r3)).1).getD k default).at_) == ((((scanS r2).1).getD k default).at_)) && true))))))] 96 110 [] [(110, (.bool ((decide ((k : Int) < (((scanS r2).1).length : Int))) && (!((((((scanS ((r2 ++ [10]) ++ r3)).1).getD k default).kind) == ((((scanS r2).1).getD k default).kind)) && ((((((scanS ((r2 ++ [10]) ++ r3)).1).getD k default).text.b : List UInt8) == ((((scanS r2).1).getD k default).text.b : List UInt8)) && ((((((scanS ((r2 ++ [10]) ++ r3)).1).getD k default).at_) == ((((scanS r2).1).getD k default).at_)) && true)))))))] (vA (fun (g1 : (decide ((k : Int) < (((scanS r2).1).length : Int))) = true) => (Sv.ix (j := (k : Int)) (OS.sv hrl16 hs29 (i := 4) rfl) (by (try simp only [BS] at g1); (first | omega | (simp only [List.length_append, List.length_cons, List.length_nil]; omega) | (simp only [List.length_take, List.length_drop]; omega))) (by (try simp only [BS] at g1); (first | omega | (simp only [List.length_append, List.length_cons, List.length_nil]; omega) | (simp only [List.length_take, List.length_drop]; omega))))) (vA (fun (g1 : (decide ((k : Int) < (((scanS r2).1).length : Int))) = true) => (qn 43 0 3 (hc0 (Token.vw (hv33 k) (by (try simp only [BS] at g1); (first | omega | (simp only [List.length_append, List.length_cons, List.length_nil]; omega) | (simp only [List.length_take, List.length_drop]; omega))))) rfl rfl rfl rfl)) (vA (fun (g1 : (decide ((k : Int) < (((scanS r2).1).length : Int))) = true) => (Sv.ix (j := (k : Int)) (OS.sv hrl5 hs29 (i := 0) rfl) (by (try simp only [BS] at g1); (first | omega | (simp only [List.length_append, List.length_cons, List.length_nil]; omega) | (simp only [List.length_take, List.length_drop]; omega))) (by (try simp only [BS] at g1); (first | omega | (simp only [List.length_append, List.length_cons, List.length_nil]; omega) | (simp only [List.length_take, List.length_drop]; omega))))) (vA (fun (g1 : (decide ((k : Int) < (((scanS r2).1).length : Int))) = true) => (qn 43 0 3 (hc0 (Token.vw (hv35 k) (by (try simp only [BS] at g1); (first | omega | (simp only [List.length_append, List.length_cons, List.length_nil]; omega) | (simp only [List.length_take, List.length_drop]; omega))))) rfl rfl rfl rfl)) (vA (fun (g1 : (decide ((k : Int) < (((scanS r2).1).length : Int))) = true) => (agNe (P := Try.prog) (t := 43) (xs := [(.int .i64 ((((scanS ((r2 ++ [10]) ++ r3)).1).getD k default).kind)), (.string ⟨⟨(((scanS ((r2 ++ [10]) ++ r3)).1).getD k default).text.b⟩⟩), (.int .i64 ((((scanS ((r2 ++ [10]) ++ r3)).1).getD k default).at_))]) (ys := [(.int .i64 ((((scanS r2).1).getD k default).kind)), (.string ⟨⟨(((scanS r2).1).getD k default).text.b⟩⟩), (.int .i64 ((((scanS r2).1).getD k default).at_))]) (bs := [(((((scanS ((r2 ++ [10]) ++ r3)).1).getD k default).kind) == ((((scanS r2).1).getD k default).kind)), (((((scanS ((r2 ++ [10]) ++ r3)).1).getD k default).text.b : List UInt8) == ((((scanS r2).1).getD k default).text.b : List UInt8)), (((((scanS ((r2 ++ [10]) ++ r3)).1).getD k default).at_) == ((((scanS r2).1).getD k default).at_))]) rfl rfl rfl (by kernel_rfl) (by kernel_rfl) (.cons ⟨by decide, _, _, rfl, rfl, eqI rfl⟩ (.cons ⟨by decide, _, _, rfl, rfl, eqL rfl⟩ (.cons ⟨by decide, _, _, rfl, rfl, eqI rfl⟩ .nil))))) trivial))))) rfl (by kernel_rfl) rfl fun gg37 => ?_
        refine wk_iff 2 (v := ((decide ((k : Int) < (((scanS r2).1).length : Int))) && (!((((((scanS ((r2 ++ [10]) ++ r3)).1).getD k default).kind) == ((((scanS r2).1).getD k default).kind)) && ((((((scanS ((r2 ++ [10]) ++ r3)).1).getD k default).text.b : List UInt8) == ((((scanS r2).1).getD k default).text.b : List UInt8)) && ((((((scanS ((r2 ++ [10]) ++ r3)).1).getD k default).at_) == ((((scanS r2).1).getD k default).at_)) && true)))))) rfl (by exact cc4 (by omega) e0 f0) rfl rfl ?_
        refine wr 1 [] 111 114 [] [(114, (.bool (decide ((((scanS r2).1).length : Int) ≤ (k : Int)))))] trivial (by kernel_rfl) rfl fun gg38 => ?_
        refine wk_if 1 2 (v := (decide ((((scanS r2).1).length : Int) ≤ (k : Int)))) rfl rfl rfl rfl (fun c39b => ?_) (fun c39b => ?_)
        · have c39 := c39b
          try simp only [BS] at c39
          have c5 := c39
          have of1 := oft (k - ((scanS r2).1).length)
          refine wk_region ?_
          obtain ⟨cf40, hv40⟩ := Sv.view (OS.sv hrl10 hs29 (i := 2) rfl)
          obtain ⟨g41_0, g41_2⟩ := Token.fx (hv40 (k - (((scanS r2).1).length)))
          refine wro 7 0 [(4, .e ((k - (((scanS r2).1).length) : Nat) : Int)), (6, .o (.agg ⟨[(.int .i64 ((((scanS r3).1).getD (k - (((scanS r2).1).length)) default).kind)), (.string ⟨⟨(((scanS r3).1).getD (k - (((scanS r2).1).length)) default).text.b⟩⟩), (.int .i64 ((((scanS r3).1).getD (k - (((scanS r2).1).length)) default).at_))]⟩))] 115 121 [] [(121, (.agg ⟨[(.int .i64 ((((scanS r3).1).getD (k - (((scanS r2).1).length)) default).kind)), (.string ⟨⟨(((scanS r3).1).getD (k - (((scanS r2).1).length)) default).text.b⟩⟩), (.int .i64 ((((scanS r3).1).getD (k - (((scanS r2).1).length)) default).at_))]⟩))] (vA (ve (n := (k : Int) - (((scanS r2).1).length : Int)) (m := ((k - (((scanS r2).1).length) : Nat) : Int)) (by first | omega | (simp only [List.length_append, List.length_cons, List.length_nil]; omega) | (simp only [List.length_take, List.length_drop]; omega)) (by first | omega | (simp only [List.length_append, List.length_cons, List.length_nil]; omega) | (simp only [List.length_take, List.length_drop]; omega))) (vA (Sv.ix (j := ((k - (((scanS r2).1).length) : Nat) : Int)) (OS.sv hrl10 hs29 (i := 2) rfl) (by first | omega | (simp only [List.length_append, List.length_cons, List.length_nil]; omega) | (simp only [List.length_take, List.length_drop]; omega)) (by first | omega | (simp only [List.length_append, List.length_cons, List.length_nil]; omega) | (simp only [List.length_take, List.length_drop]; omega))) (vA (qn 43 0 3 (Token.vw (hv40 (k - (((scanS r2).1).length))) (by first | omega | (simp only [List.length_append, List.length_cons, List.length_nil]; omega) | (simp only [List.length_take, List.length_drop]; omega))) rfl rfl rfl rfl) trivial))) (by kernel_rfl) rfl fun gg42 => ?_
          refine wo_rs (rs_new hs29 rfl) rfl rfl ?_
          rintro _ H44 _ ⟨b43, rfl, hs44, _⟩
          have hs44 : HS (Base.of H []) F29 H44 [p5, [(b7, .cells [(.int .i64 ((ErrT.mk (scanS r2).2.1 (scanS r2).2.2).why)), (.int .i64 ((ErrT.mk (scanS r2).2.1 (scanS r2).2.2).at_))] none false)], p10, [(b12, .cells [(.int .i64 ((ErrT.mk (scanS r3).2.1 (scanS r3).2.2).why)), (.int .i64 ((ErrT.mk (scanS r3).2.1 (scanS r3).2.2).at_))] none false)], p16, [(b18, .cells [(.int .i64 ((ErrT.mk (scanS ((r2 ++ [10]) ++ r3)).2.1 (scanS ((r2 ++ [10]) ++ r3)).2.2).why)), (.int .i64 ((ErrT.mk (scanS ((r2 ++ [10]) ++ r3)).2.1 (scanS ((r2 ++ [10]) ++ r3)).2.2).at_))] none false)], [(b43, .cells [(.int .i64 0), (.string ⟨⟨[]⟩⟩), (.int .i64 0)] none false)]] R := hs44
          refine wo_rk (rs_rec (q := 6) hs44 rfl rfl rfl rfl rfl rfl rfl rfl rfl) rfl ?_
          rintro _ H45 _ ⟨hs45, _⟩
          have hs45 : HS (Base.of H []) F29 H45 [p5, [(b7, .cells [(.int .i64 ((ErrT.mk (scanS r2).2.1 (scanS r2).2.2).why)), (.int .i64 ((ErrT.mk (scanS r2).2.1 (scanS r2).2.2).at_))] none false)], p10, [(b12, .cells [(.int .i64 ((ErrT.mk (scanS r3).2.1 (scanS r3).2.2).why)), (.int .i64 ((ErrT.mk (scanS r3).2.1 (scanS r3).2.2).at_))] none false)], p16, [(b18, .cells [(.int .i64 ((ErrT.mk (scanS ((r2 ++ [10]) ++ r3)).2.1 (scanS ((r2 ++ [10]) ++ r3)).2.2).why)), (.int .i64 ((ErrT.mk (scanS ((r2 ++ [10]) ++ r3)).2.1 (scanS ((r2 ++ [10]) ++ r3)).2.2).at_))] none false)], [(b43, .cells [(.int .i64 ((((scanS r3).1).getD (k - (((scanS r2).1).length)) default).kind)), (.string ⟨⟨(((scanS r3).1).getD (k - (((scanS r2).1).length)) default).text.b⟩⟩), (.int .i64 ((((scanS r3).1).getD (k - (((scanS r2).1).length)) default).at_))] none false)]] R := hs45
          refine wo_end 2 rfl ?_
          obtain ⟨cf46, hv46⟩ := Sv.view (OS.sv hrl16 hs45 (i := 4) rfl)
          obtain ⟨g47_0, g47_2⟩ := Token.fx (hv46 k)
          refine wrD 1 [(4, .o (.int .i64 ((((scanS ((r2 ++ [10]) ++ r3)).1).getD k default).kind))), (6, .o (.int .i64 ((((scanS r3).1).getD (k - (((scanS r2).1).length)) default).kind))), (13, .o (.string ⟨⟨(((scanS ((r2 ++ [10]) ++ r3)).1).getD k default).text.b⟩⟩)), (15, .o (.string ⟨⟨(((scanS r3).1).getD (k - (((scanS r2).1).length)) default).text.b⟩⟩)), (23, .o (.int .i64 ((((scanS ((r2 ++ [10]) ++ r3)).1).getD k default).at_))), (25, .o (.int .i64 ((((scanS r3).1).getD (k - (((scanS r2).1).length)) default).at_)))] 122 153 [] [(153, (.bool ((((((scanS ((r2 ++ [10]) ++ r3)).1).getD k default).kind != (((scanS r3).1).getD (k - (((scanS r2).1).length)) default).kind) || (((((scanS ((r2 ++ [10]) ++ r3)).1).getD k default).text.b) != ((((scanS r3).1).getD (k - (((scanS r2).1).length)) default).text.b))) || ((((scanS ((r2 ++ [10]) ++ r3)).1).getD k default).at_ != (((((scanS r3).1).getD (k - (((scanS r2).1).length)) default).at_) + (r2.length : Int)) + 1))))] (vA (Sv.ix (j := (k : Int)) (OS.sv hrl16 hs45 (i := 4) rfl) (by first | omega | (simp only [List.length_append, List.length_cons, List.length_nil]; omega) | (simp only [List.length_take, List.length_drop]; omega)) (by first | omega | (simp only [List.length_append, List.length_cons, List.length_nil]; omega) | (simp only [List.length_take, List.length_drop]; omega))) (vA (ql 3 0 (hc0 (Token.vw (hv46 k) (by first | omega | (simp only [List.length_append, List.length_cons, List.length_nil]; omega) | (simp only [List.length_take, List.length_drop]; omega)))) rfl rfl) (vA (ql 3 0 (hc0 (HS.hc hs45 (i := 6) rfl)) rfl rfl) (vA (fun (g1 : ((((scanS ((r2 ++ [10]) ++ r3)).1).getD k default).kind != (((scanS r3).1).getD (k - (((scanS r2).1).length)) default).kind) = false) => (Sv.ix (j := (k : Int)) (OS.sv hrl16 hs45 (i := 4) rfl) (by (try simp only [BS] at g1); (first | omega | (simp only [List.length_append, List.length_cons, List.length_nil]; omega) | (simp only [List.length_take, List.length_drop]; omega))) (by (try simp only [BS] at g1); (first | omega | (simp only [List.length_append, List.length_cons, List.length_nil]; omega) | (simp only [List.length_take, List.length_drop]; omega))))) (vA (fun (g1 : ((((scanS ((r2 ++ [10]) ++ r3)).1).getD k default).kind != (((scanS r3).1).getD (k - (((scanS r2).1).length)) default).kind) = false) => (ql 9 1 (hc0 (Token.vw (hv46 k) (by (try simp only [BS] at g1); (first | omega | (simp only [List.length_append, List.length_cons, List.length_nil]; omega) | (simp only [List.length_take, List.length_drop]; omega))))) rfl rfl)) (vA (fun (g1 : ((((scanS ((r2 ++ [10]) ++ r3)).1).getD k default).kind != (((scanS r3).1).getD (k - (((scanS r2).1).length)) default).kind) = false) => (ql 9 1 (hc0 (HS.hc hs45 (i := 6) rfl)) rfl rfl)) (vA (fun (g1 : (((((scanS ((r2 ++ [10]) ++ r3)).1).getD k default).kind != (((scanS r3).1).getD (k - (((scanS r2).1).length)) default).kind) || (((((scanS ((r2 ++ [10]) ++ r3)).1).getD k default).text.b) != ((((scanS r3).1).getD (k - (((scanS r2).1).length)) default).text.b))) = false) => (Sv.ix (j := (k : Int)) (OS.sv hrl16 hs45 (i := 4) rfl) (by (try simp only [BS] at g1); (first | omega | (simp only [List.length_append, List.length_cons, List.length_nil]; omega) | (simp only [List.length_take, List.length_drop]; omega))) (by (try simp only [BS] at g1); (first | omega | (simp only [List.length_append, List.length_cons, List.length_nil]; omega) | (simp only [List.length_take, List.length_drop]; omega))))) (vA (fun (g1 : (((((scanS ((r2 ++ [10]) ++ r3)).1).getD k default).kind != (((scanS r3).1).getD (k - (((scanS r2).1).length)) default).kind) || (((((scanS ((r2 ++ [10]) ++ r3)).1).getD k default).text.b) != ((((scanS r3).1).getD (k - (((scanS r2).1).length)) default).text.b))) = false) => (ql 3 2 (hc0 (Token.vw (hv46 k) (by (try simp only [BS] at g1); (first | omega | (simp only [List.length_append, List.length_cons, List.length_nil]; omega) | (simp only [List.length_take, List.length_drop]; omega))))) rfl rfl)) (vA (fun (g1 : (((((scanS ((r2 ++ [10]) ++ r3)).1).getD k default).kind != (((scanS r3).1).getD (k - (((scanS r2).1).length)) default).kind) || (((((scanS ((r2 ++ [10]) ++ r3)).1).getD k default).text.b) != ((((scanS r3).1).getD (k - (((scanS r2).1).length)) default).text.b))) = false) => (ql 3 2 (hc0 (HS.hc hs45 (i := 6) rfl)) rfl rfl)) (vA (fun (g1 : (((((scanS ((r2 ++ [10]) ++ r3)).1).getD k default).kind != (((scanS r3).1).getD (k - (((scanS r2).1).length)) default).kind) || (((((scanS ((r2 ++ [10]) ++ r3)).1).getD k default).text.b) != ((((scanS r3).1).getD (k - (((scanS r2).1).length)) default).text.b))) = false) => (vi (n := ((((scanS r3).1).getD (k - (((scanS r2).1).length)) default).at_) + (r2.length : Int)) (by (try simp only [BS] at g1); (first | omega | (simp only [List.length_append, List.length_cons, List.length_nil]; omega) | (simp only [List.length_take, List.length_drop]; omega))))) (vA (fun (g1 : (((((scanS ((r2 ++ [10]) ++ r3)).1).getD k default).kind != (((scanS r3).1).getD (k - (((scanS r2).1).length)) default).kind) || (((((scanS ((r2 ++ [10]) ++ r3)).1).getD k default).text.b) != ((((scanS r3).1).getD (k - (((scanS r2).1).length)) default).text.b))) = false) => (vi (n := (((((scanS r3).1).getD (k - (((scanS r2).1).length)) default).at_) + (r2.length : Int)) + 1) (by (try simp only [BS] at g1); (first | omega | (simp only [List.length_append, List.length_cons, List.length_nil]; omega) | (simp only [List.length_take, List.length_drop]; omega))))) trivial))))))))))) rfl (by kernel_rfl) rfl fun gg48 => ?_
          refine wk_iff 2 (v := ((((((scanS ((r2 ++ [10]) ++ r3)).1).getD k default).kind != (((scanS r3).1).getD (k - (((scanS r2).1).length)) default).kind) || (((((scanS ((r2 ++ [10]) ++ r3)).1).getD k default).text.b) != ((((scanS r3).1).getD (k - (((scanS r2).1).length)) default).text.b))) || ((((scanS ((r2 ++ [10]) ++ r3)).1).getD k default).at_ != (((((scanS r3).1).getD (k - (((scanS r2).1).length)) default).at_) + (r2.length : Int)) + 1))) rfl (by exact cc6 (by omega) e0 f0 (by omega) (by omega)) rfl rfl ?_
          refine wr 1 [] 93 93 [154] [(93, (.int .i64 ((k : Int) + 1)))] (vA (vi (n := (k : Int) + 1) (by first | omega | (simp only [List.length_append, List.length_cons, List.length_nil]; omega) | (simp only [List.length_take, List.length_drop]; omega))) trivial) (by kernel_rfl) rfl fun gg49 => ?_
          refine ih29 _ _ _ ?_ ⟨k + 1, _, (Fz.le_trans hF29 (Fz.le_refl _)), (HS.sub hs45 (List.sublist_append_left _ _)), (agC rfl (agC rfl (agC rfl (agC rfl (agC rfl (agC rfl agN)))))), rfl, (by first | assumption | omega | (simp at *; omega))⟩
          omega
        · have c39 := c39b
          try simp only [BS] at c39
          refine wr 1 [] 93 93 [154] [(93, (.int .i64 ((k : Int) + 1)))] (vA (vi (n := (k : Int) + 1) (by first | omega | (simp only [List.length_append, List.length_cons, List.length_nil]; omega) | (simp only [List.length_take, List.length_drop]; omega))) trivial) (by kernel_rfl) rfl fun gg50 => ?_
          refine ih29 _ _ _ ?_ ⟨k + 1, _, (Fz.le_trans hF29 (Fz.le_refl _)), hs29, (agC rfl (agC rfl (agC rfl (agC rfl (agC rfl (agC rfl agN)))))), rfl, (by first | assumption | omega | (simp at *; omega))⟩
          omega
      · have c31 := c31b
        try simp only [BS] at c31
        refine wr 1 [(0, .o (.bool true))] 4 4 [155] [(4, (.bool true))] (vA (ex_c_q 6 H29) trivial) (by kernel_rfl) rfl fun gg51 => ?_
        refine wk_ret ⟨.inr rfl, _, rfl, true, _, (Fz.le_trans (Fz.le_trans (Fz.le_trans (Fz.le_trans (Fz.le_trans (hF2) hF3) hF5) hF10) hF16) hF29), (HS.forget hs29), rfl, (by first | rfl | omega | simp_all)⟩
end Go.Proofs.Ytcakpkdeojhacaa.l4
