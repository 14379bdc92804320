/-
The parser of the program. No condition.
-/
import Derived.Test.YtapgbjedgcpffaaZQPF
noncomputable section
namespace Go.Proofs.Ytapgbjedgcpffaa.pg
open Go.R
set_option maxRecDepth 10000
set_option linter.unusedVariables false
set_option linter.unusedSimpArgs false
open w1 w3 l1 pt pa pb pc pd pe pf
theorem lL: ∀(f:Nat) (s:List UInt8) (a:Nat),(dP f s a).1.length<=s.length-a/\∀t∈(dP f s a).1,t.text.b.length<=s.length/\0<=t.at_/\t.at_<=(s.length:Int)
 |0,s,a=>⟨a0p _,fun t h=>by cases h⟩
 |f+1,s,a=>by
  rw[dP];split
  ·next h=>
   split
   ·next e=>
    have q:=lh (s:=s.drop a) (by rw[a0P];omega);obtain⟨T,E⟩:=lL f s (a+(ay (s.drop a)).2.1.length+spl false (s.drop (a+(ay (s.drop a)).2.1.length)));have U:=q.2.1 e;have O:=q.1;rw[a0P]at O;unfold consT;split
    ·refine⟨?_,fun t Y=>?_⟩
     ·show _+1<=_;omega
     rcases a0j.1 Y with rfl|Y
     ·refine⟨?_,Int.natCast_nonneg _,?_⟩
      ·show(ay (s.drop a)).2.1.length<=_;omega
      show(a:Int)<=_;omega
     exact E t Y
    exact⟨by omega,E⟩
   exact⟨a0p _,fun t h=>by cases h⟩
  exact⟨a0p _,fun t h=>by cases h⟩
theorem fU(s:List UInt8):(bc s).1.length<=20000/\∀i,((bc s).1.getD i default).text.b.length<=1000000:=by
 unfold bc;split
 ·exact⟨a0p _,fun i=>a0p _⟩
 obtain⟨O,E⟩:=lL (s.length+1) s (spl false s);refine⟨by omega,fun i=>?_⟩;rcases a0k i (dP (s.length+1) s (spl false s)).1.length with hi|hi
 ·rw[a0a,a09 hi];have:=(E _ (a0J hi)).1;show((dP (s.length+1) s (spl false s)).1[i]).text.b.length<=_;omega
 rw[bY hi];exact a0p _
theorem scan_at(s:List UInt8)(h:s.length<1000000)(i:Int):in64 (offV (bc s).1 i (s.length:Int)):=by
 unfold offV;split
 ·unfold bc;split
  ·show in64 0;decide
  obtain⟨_,E⟩:=lL (s.length+1) s (spl false s);rcases a0k i.toNat (dP (s.length+1) s (spl false s)).1.length with hi|hi
  ·rw[a0a,a09 hi];have:=(E _ (a0J hi)).2;show in64 ((dP (s.length+1) s (spl false s)).1[i.toNat]).at_;omega
  rw[bY hi];show in64 0;decide
 omega
theorem Oc.kf{α:Type}{ts:List Token}{w:List UInt8}{g:Nat->Unit->Nat->Rs α}{b O c:Bool}{i T j:Int}{x:α}(q:j=i/\c=b/\(b=false->¬isK ts i.toNat w=true))(E:0<=i)(h:O=true/\T=j):Oc (fun n=>bnd (keyM ts w i.toNat) (g n)) b i x T O:=⟨fun _=>⟨h.1,h.2.trans q.1⟩,fun hb=>by
 rw[h.1,show(fun n=>bnd (keyM ts w i.toNat) (g n))=fun _=> .error i.toNat from funext fun n=>by unfold keyM;rw[if_neg (q.2.2 hb)];rfl];exact .fail (by have:=h.2;have:=q.1;omega)⟩
theorem Oc.ky{α:Type}{ts:List Token}{w:List UInt8}{g:Nat->Unit->Nat->Rs α}{b O c:Bool}{i T j:Int}{x:α}(q:b=false/\isK ts i.toNat w=true/\j=i+1/\c=false)(E:0<=i)(h:Oc (fun n=>g n () j.toNat) c j x T O):Oc (fun n=>bnd (keyM ts w i.toNat) (g n)) b i x T O:=Oc.of q.1 ((h.out q.2.2.2).eqf (funext fun n=>by unfold keyM;rw[if_pos q.2.1,bH q E];rfl))
theorem pr_exit{ts:List Token}{O:List ArrT}{T:List FunT}{r:RdrT}(E:0<=r.at_)(h:r.bad=false->(ts.length:Int)<=r.at_):Oc (fun n=>hZ ts n O T r.at_.toNat) r.bad r.at_ (O,T) r.at_ r.bad:=by
 cases hb:r.bad with
 |true=>exact Oc.bad rfl
 |false=>exact Oc.succ (Oc.iteT (fun _=>show ts.length<=r.at_.toNat by have:=h hb;omega) (Oc.val E fun _=>rfl)) (fun _=>hZ.eq_2 ..)
def ParR(s:List UInt8)(p:PrgT)(e:ErrT):Prop:=
 if(bc s).2.1=0 then ∃(x:List ArrT×List FunT) (i:Int) (b:Bool),Outc (fun n=>hZ (bc s).1 n [] [] 0) x i b/\i<=((bc s).1.length:Int)/\p=(if b then⟨[],[]⟩ else⟨x.1,x.2⟩)/\e=(if b then⟨2,offV (bc s).1 i (s.length:Int)⟩ else⟨0,0⟩)
 else p=⟨[],[]⟩/\e=⟨(bc s).2.1,(bc s).2.2⟩
theorem pr_err{s:List UInt8}(h:(bc s).2.1≠0):ParR s ⟨[],[]⟩ ⟨(bc s).2.1,(bc s).2.2⟩:=by unfold ParR;rw[if_neg h];exact⟨rfl,rfl⟩
theorem pr_bad{s:List UInt8}{x:List ArrT×List FunT}{i:Int}{b:Bool}(h:(bc s).2.1=0)(w:Oc (fun n=>hZ (bc s).1 n [] [] 0) false 0 x i b)(hb:b=true)(hi:i<=((bc s).1.length:Int)):ParR s ⟨[],[]⟩ ⟨2,offV (bc s).1 i (s.length:Int)⟩:=by unfold ParR;rw[if_pos h];exact⟨x,i,b,w.out rfl,hi,by rw[hb];rfl,by rw[hb];rfl⟩
theorem pr_ok{s:List UInt8}{E:List ArrT}{O:List FunT}{i:Int}{b:Bool}(h:(bc s).2.1=0)(w:Oc (fun n=>hZ (bc s).1 n [] [] 0) false 0 (E,O) i b)(hb:b=false)(hi:i<=((bc s).1.length:Int)):ParR s ⟨E,O⟩ ⟨0,0⟩:=by unfold ParR;rw[if_pos h];exact⟨(E,O),i,b,w.out rfl,hi,by rw[hb];rfl,by rw[hb];rfl⟩
end Go.Proofs.Ytapgbjedgcpffaa.pg
