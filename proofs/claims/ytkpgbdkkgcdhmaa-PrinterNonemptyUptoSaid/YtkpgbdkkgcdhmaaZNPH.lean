/-
Plain laws: what the functions compute answers as the statement says. No condition beyond those that each statement names.
-/
import Derived.Test.YtkpgbdkkgcdhmaaZNPG
noncomputable section
namespace Go.Proofs.Ytkpgbdkkgcdhmaa.ph
open Go.R w1 w3 l1 pt pa pb pc pd pe pf pg
set_option linter.unusedVariables false
set_option linter.unusedSimpArgs false
def TokOK(t:Token):Prop:=(t.kind=1/\eS (t.text.b.headD 0)=true)\/(t.kind=2/\okNum t.text.b=true/\val t.text.b<=9223372036854775808)\/(t.kind=3/\dP (t.text.b.headD 0)=false)
theorem word_head{s:List UInt8}:(aN s=0->dP (s.getD 0 0)=false)/\(aN s≠0->dP (s.getD 0 0)=true):=by
 cases s with
 |nil=>exact⟨fun _=>rfl,fun h=>absurd V h⟩
 |cons c s=>
  unfold aN
  rw[a1U]
  show(_->dP c=false)/\(_->dP c=true)
  cases dP c with
  |true=>exact⟨fun h=>absurd h (by simp),fun _=>rfl⟩
  |false=>exact⟨fun _=>rfl,fun h=>absurd V h⟩
def TksOK(ts:List Token):Prop:= ∀i,i<ts.length->TokOK (ts.getD i default)
end Go.Proofs.Ytkpgbdkkgcdhmaa.ph
