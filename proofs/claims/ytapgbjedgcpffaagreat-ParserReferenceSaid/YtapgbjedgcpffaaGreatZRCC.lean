/-
The check of the reference: names, each function by a symbolic run. No condition but that the program has less than 2^62 parts.
-/
import Derived.Test.YtapgbjedgcpffaaGreatZRL1
import Derived.Test.YtapgbjedgcpffaaGreatZRCB
noncomputable section
namespace Go.Proofs.YtapgbjedgcpffaaGreat.cc
open Go.R
set_option maxRecDepth 10000
set_option linter.unusedVariables false
set_option linter.unusedSimpArgs false
variable (ex:FuncId) {F:Fz} {H:Heap} {R:List Fp}
open w3 l1 pt ca cb
structure ScpT where
 vars:(List Str)
 arrs:(List Str)
 p:PrgT
 deriving Inhabited
instance :Rp ScpT where
 sz:=4
 rep F cs x:= ∃a0 k0 a1 k1 a2 k2 a3 k3,cs=[sL a0 x.vars.length k0,sL a1 x.arrs.length k1,sL a2 x.p.arrs.length k2,sL a3 x.p.funs.length k3]/\SR F (sL a0 x.vars.length k0) x.vars/\SR F (sL a1 x.arrs.length k1) x.arrs/\SR F (sL a2 x.p.arrs.length k2) x.p.arrs/\SR F (sL a3 x.p.funs.length k3) x.p.funs
 len:=by rintro F cs x ⟨a0,k0,a1,k1,a2,k2,a3,k3,rfl,_⟩;rfl
 one:=by rintro F cs x ⟨a0,k0,a1,k1,a2,k2,a3,k3,rfl,_⟩;rfl
 mono:=by rintro F F' cs x hF ⟨a0,k0,a1,k1,a2,k2,a3,k3,rfl,h0,h1,h2,h3⟩;exact⟨a0,k0,a1,k1,a2,k2,a3,k3,V,h0.mono hF,h1.mono hF,h2.mono hF,h3.mono hF⟩
theorem hs_y{l:List Str}{s:List UInt8}{i:Nat}(h:i<l.length)(c:(l.getD i default).b=s):fA (l.drop i) s=true:=by unfold fA;rw[iu h,c,BEq.rfl];rfl
theorem hs_n{l:List Str}{s:List UInt8}{i:Nat}(h:i<l.length)(c:(l.getD i default).b≠s):fA (l.drop i) s=fA (l.drop (i+1)) s:=by unfold fA;rw[iu h,beq_eq_false_iff_ne.2 c];rfl
theorem ff_y{s:List UInt8}{l:List FunT}{i:Nat}(h:i<l.length)(c:(l.getD i default).name.b=s):ffN s (l.drop i) i=(i:Int):=by rw[cz (d:=default) h,ffN,if_pos c]
theorem ff_n{s:List UInt8}{l:List FunT}{i:Nat}(h:i<l.length)(c:(l.getD i default).name.b≠s):ffN s (l.drop i) i=ffN s (l.drop (i+1)) (i+1):=by rw[cz (d:=default) h,ffN,if_neg c]
theorem ff_e{s:List UInt8}{l:List FunT}{i:Nat}(h:l.length<=i):ffN s (l.drop i) i= -1:=by rw[d5 h,ffN]
theorem df_e(vs aa:List Str)(e:ExpT):dfE vs aa e=(f0 vs aa e.kids&&((e.kind !=2)||fA vs e.name.b)&&((e.kind !=3)||fA aa e.name.b)):=by cases e;rw[dfE]
theorem ds_go{vs aa:List Str}{l:List ExpT}{i:Nat}(h:i<l.length)(c:dfE vs aa (l.getD i default)=true):f0 vs aa (l.drop i)=f0 vs aa (l.drop (i+1)):=by rw[cz (d:=default) h,f0,c];rfl
theorem ds_no{vs aa:List Str}{l:List ExpT}{i:Nat}(h:i<l.length)(c:dfE vs aa (l.getD i default)=false):f0 vs aa (l.drop i)=false:=by rw[cz (d:=default) h,f0,c];rfl
theorem df_no{vs aa:List Str}{l:List ExpT}{a b:Bool}(h:f0 vs aa l=false):(f0 vs aa l&&a&&b)=false:=by rw[h];rfl
theorem df_go{vs aa:List Str}{l:List ExpT}{i:Nat}{a b:Bool}(h:f0 vs aa l=f0 vs aa (l.drop i))(hi:l.length<=i):(f0 vs aa l&&a&&b)=(a&&b):=by rw[h,d5 hi,f0,a1o]
theorem dk_1{vs aa:List Str}{p:PrgT}{s:StmT}(h:f0 vs aa s.args=false):dfK vs aa p s=false:=by unfold dfK;rw[h];rfl
theorem dk_2{vs aa:List Str}{p:PrgT}{s:StmT}(h:dfE vs aa s.at_=false\/dfE vs aa s.val=false):dfK vs aa p s=false:=by unfold dfK;rcases h with h|h<;>rw[h]<;>simp
theorem dk_3{vs aa:List Str}{p:PrgT}{s:StmT}{i:Nat}{b:Bool}(h:f0 vs aa s.args=f0 vs aa (s.args.drop i))(hi:s.args.length<=i)(c:dfE vs aa s.at_=true/\dfE vs aa s.val=true)(e:swK vs aa p s=b):dfK vs aa p s=b:=by unfold dfK;rw[h,d5 hi,f0,c.1,c.2,e];rfl
def csS(cnt:Bool)(x:ScpT)(l:List StmT):Bool:=if cnt=true then arSs x.p l else kE x.vars x.arrs x.p l
theorem df_s(vs aa:List Str)(p:PrgT)(s:StmT):dfS vs aa p s=(dfK vs aa p s&&kE vs aa p s.thn&&kE vs aa p s.els):=by cases s;rw[dfS]
theorem ar_s(p:PrgT)(s:StmT):arS p s=(arK p s&&arSs p s.thn&&arSs p s.els):=by cases s;rw[arS]
theorem cs_end{cnt:Bool}{x:ScpT}{l:List StmT}{i:Nat}(h:l.length<=i):csS cnt x (l.drop i)=true:=by unfold csS;rw[d5 h,arSs,kE];split<;>rfl
def cnK(cnt:Bool)(x:ScpT)(s:StmT):Bool:=if cnt=true then arK x.p s else dfK x.vars x.arrs x.p s
theorem cs_b{cnt:Bool}{x:ScpT}{l:List StmT}{i:Nat}(h:i<l.length):csS cnt x (l.drop i)=(cnK cnt x (l.getD i default)&&csS cnt x (l.getD i default).thn&&csS cnt x (l.getD i default).els&&csS cnt x (l.drop (i+1))):=by
 unfold csS cnK;rw[cz (d:=default) h];split
 ·rw[arSs,ar_s]
 rw[kE,df_s]
theorem cs_no{cnt:Bool}{x:ScpT}{l:List StmT}{i:Nat}(h:i<l.length)(c:cnK cnt x (l.getD i default)=false\/csS cnt x (l.getD i default).thn=false\/csS cnt x (l.getD i default).els=false):csS cnt x (l.drop i)=false:=by rw[cs_b h];rcases c with c|c|c<;>rw[c]<;>simp
theorem cs_go{cnt:Bool}{x:ScpT}{l:List StmT}{i:Nat}(h:i<l.length)(k:cnK cnt x (l.getD i default)=true)(c:csS cnt x (l.getD i default).thn=true/\csS cnt x (l.getD i default).els=true):csS cnt x (l.drop i)=csS cnt x (l.drop (i+1)):=by rw[cs_b h,k,c.1,c.2];rfl
theorem cn_1{cnt:Bool}{x:ScpT}{s:StmT}(h:cnt=true)(c:((s.kind==6)&&((s.args.length:Int) !=((x.p.funs.getD (ffP x.p s.to.b).toNat default).pars.length:Int)))=true):cnK cnt x s=false:=by unfold cnK;rw[if_pos h];show(!_)=false;rw[c];rfl
theorem cn_2{cnt:Bool}{x:ScpT}{s:StmT}(h:cnt=true)(c:((s.kind==6)&&((s.args.length:Int) !=((x.p.funs.getD (ffP x.p s.to.b).toNat default).pars.length:Int)))=false):cnK cnt x s=true:=by unfold cnK;rw[if_pos h];show(!_)=true;rw[c];rfl
theorem cn_3{cnt:Bool}{x:ScpT}{s:StmT}(h:cnt=false)(c:dfK x.vars x.arrs x.p s=false):cnK cnt x s=false:=by unfold cnK;rw[if_neg (by rw[h];decide)];exact c
theorem cn_4{cnt:Bool}{x:ScpT}{s:StmT}(h:cnt=false)(c:dfK x.vars x.arrs x.p s=true):cnK cnt x s=true:=by unfold cnK;rw[if_neg (by rw[h];decide)];exact c
theorem ffN_lt(s:List UInt8): ∀(l:List FunT) (i:Nat),ffN s l i<(i:Int)+(l.length:Int)
 | [],i=>by rw[ffN,List.length_nil];omega
 |f::l,i=>by have:=ffN_lt s l (i+1);rw[ffN,a02];split<;>omega
theorem ff_in{vs aa:List Str}{p:PrgT}{s:StmT}(h:dfK vs aa p s=true)(k:(s.kind==6)=true):0<=ffP p s.to.b/\ffP p s.to.b<(p.funs.length:Int):=by
 unfold dfK at h;rw[a03]at h;have E:=h.2;unfold swK at E;rw[if_neg (by rw[eq_of_beq k];decide),if_pos (eq_of_beq k),a03,decide_eq_true_eq]at E;have:=ffN_lt s.to.b p.funs 0;have q:ffP p s.to.b<(p.funs.length:Int):=by unfold ffP;omega
 exact⟨E.2,q⟩
theorem dfs_at{vs aa:List Str}{p:PrgT}: ∀{l:List StmT} {i:Nat},kE vs aa p l=true->i<l.length->dfS vs aa p (l.getD i default)=true
 |s::l,0,h,_=>by rw[kE,a03]at h;exact h.1
 |s::l,i+1,h,hi=>by rw[kE,a03]at h;exact dfs_at (l:=l) h.2 (by simpa using hi)
theorem cs_at{vs aa:List Str}{p:PrgT}{l:List StmT}{i:Nat}(h:kE vs aa p l=true)(hi:i<l.length):dfK vs aa p (l.getD i default)=true/\kE vs aa p (l.getD i default).thn=true/\kE vs aa p (l.getD i default).els=true:=by have:=dfs_at h hi;rw[df_s,a03,a03]at this;exact⟨this.1.1,this.1.2,this.2⟩
theorem mP{ar:Option Addr}{ax:Nat}(l:List Str)(s:List UInt8)(hs:HS (.of H []) F H [] R)(hl:SR F (sL ar l.length ax) l)(hn:l.length<4611686018427387904):kKt ex 87 [(sL ar l.length ax),(tX s)] H (cb.Po10 H (fA l s)):=by
 refine av Tryz.func87 V V ?_;refine ai 1 V ?_;refine wr 3 [] 4 4 [] [(4,(.bool false))] trivial V V fun _=>?_
 refine wr 2 [] 1 0 [5] [(5,(.int _ 0))] trivial V V fun _=>?_
 refine aq (fun(mm:Nat) f H'=> ∃(i:Nat),H'=H/\aJ f [(0,(sL ar _ ax)),(1,(tX s)),(5,(.int _ (i:Int)))]/\mm=l.length-i/\(fA l s=fA (l.drop i) s)/\(i<=l.length)) _ ⟨0,V,⟨V,V,V,trivial⟩,V,k_,M⟩ ?_;rintro an f3 H ⟨i,rfl,O,rfl,T,hi⟩ Y;refine az _ O (fun _=>?_);clear O;refine ai 2 V ?_;refine wr 1 [] 6 9 [] [(9,(.bool (decide ((i:Int)<(l.length:Int)))))] trivial V V fun _=>?_
 refine zd 4 5 (fun Z=>?_) fun Z=>?_
 ·obtain⟨al,U⟩:=Sv.view (SR.sv hl hs);refine wrp 1 12 17 [] [(17,(.bool ((l.getD i _).b==s)))] (Ha_ (Sv.ix (SR.sv hl hs)) (Hl_ 3 (ql 9 0 (vS (U i)) V V) Hn_)) V V fun _=>?_
  refine zi 1 2 (fun E=>?_) fun E=>?_
  ·try simp only[BS]at E
   have a0:=hs_y (l:=l) (i:=i) M E;refine wr 1 [] 4 4 [] [(4,(.bool true))] trivial V V fun _=>?_
   refine ae ⟨.inr V,_,V,_,V,V,(T.trans a0).symm⟩
  try simp only[BS]at E
  have a1:=hs_n (l:=l) (i:=i) M E;refine wr 1 [] 10 11 [5] [(5,(.int _ _))] (vA (vi) trivial) V V fun _=>?_
  refine Y _ _ _ ?_ ⟨i+1,V,⟨V,V,V,trivial⟩,V,(T.trans a1),M⟩;omega
 refine wr 1 [] 4 4 [] [(4,(.bool false))] trivial V V fun _=>?_
 refine ae ⟨.inr V,_,V,_,V,V,(T.trans (any_end M)).symm⟩
theorem di{E:Option Addr}{O:Nat}(l:List Str)(s:List UInt8)(hs:HS (.of H []) F H [] R)(T:SR F (sL E l.length O) l)(U:l.length<4611686018427387904):kKt ex 87 [(sL E l.length O),(tX s)] H fun v H'=>v=(.bool (fA l s))/\H'=H:=
 cq (mP ex l s hs T U) (by rintro _ _ ⟨_,rfl,rfl,rfl⟩;exact⟨V,V⟩)
abbrev Po12(F:Fz)(H:Heap)(R:List Fp)(Φ:Int->Prop)(v:Value)(H':Heap):Prop:= ∃(x:Int) (F':Fz),Fz.le F F'/\HS (.of H []) F' H' [] R/\v=iI x/\Φ x
theorem find_c{Z:Option Addr}{an:Nat}{Y:Option Addr}{al:Nat}(p:PrgT)(s:List UInt8)(hs:HS (.of H []) F H [] R)(a9:SR F (sL Y p.arrs.length al) p.arrs)(O:SR F (sL Z p.funs.length an) p.funs)(hn:p.funs.length<4611686018427387904):kKt ex 88 [(aG [(sL Y p.arrs.length al),(sL Z p.funs.length an)]),(tX s)] H (Po12 F H R fun x=>x=ffP p s/\(-1<=x/\x<(p.funs.length:Int))):=by
 refine av Tryz.func88 V V ?_;refine ai 1 V ?_;refine ab ?_;refine dB (cV hs V V) V V ?_;rintro _ H2 _ ⟨b1,rfl,a3,_⟩;refine za (.int _ 0) ?_;refine ah 3 V ?_;refine wr 2 [] 1 0 [5] [(5,(.int _ 0))] trivial V V fun _=>?_
 refine aq (fun(mm:Nat) f H'=> ∃(i:Nat) (F':Fz),Fz.le F F'/\HS _ F' H' [[(b1,.cells [_,_] _ _)]] R/\aJ f [(1,(tX s)),(2,(pT b1 0)),(5,(.int _ (i:Int)))]/\mm=p.funs.length-i/\(ffP p s=ffN s (p.funs.drop i) i)/\(i<=p.funs.length)) _ ⟨0,_,fR,a3,⟨V,V,V,trivial⟩,V,k_,M⟩ ?_;rintro b3 f4 H4 ⟨i,F4,U,E,ax,rfl,h1,hi⟩ a4;refine az _ ax (fun _=>?_);clear ax;replace O:=O.mono U;refine ai 2 V ?_;refine cP 1 6 10 [] [(10,(.bool (decide ((i:Int)<(p.funs.length:Int)))))] (Hr_ 2 0 Hn_) E V V fun _=>?_
 refine zd 4 5 (fun c6=>?_) fun c6=>?_
 ·obtain⟨b2,a0⟩:=Sv.view (SR.sv O E);obtain⟨a6,a7,a8,ba,bb,bl,b0⟩:=FunT.fx (a0 i);refine cP 1 13 20 [] [(20,(.bool ((p.funs.getD i _).name.b==s)))] (Hr_ 1 0 (Ha_ (Sv.ix (SR.sv O E)) (Hl_ 5 (ql 9 0 (FunT.vw (a0 i)) V V) Hn_))) E V V fun _=>?_
  refine zi 1 2 (fun T=>?_) fun T=>?_
  ·try simp only[BS]at T
   have b5:=ff_y (l:=p.funs) (i:=i) M T;refine wr 1 [] 4 4 [21] [(4,(.int _ _))] trivial V V fun _=>?_
   refine ae ⟨.inr V,_,V,_,_,(U),(HS.forget E),V,M,M⟩
  try simp only[BS]at T
  have a5:=ff_n (l:=p.funs) (i:=i) M T;refine wr 1 [] 11 12 [5] [(5,(.int _ _))] (vA (vi) trivial) V V fun _=>?_
  refine a4 _ _ _ ?_ ⟨i+1,_,(U),E,⟨V,V,V,trivial⟩,V,(h1.trans a5),M⟩;omega
 refine wr 1 [] 4 4 [] [(4,(.int _ _))] trivial V V fun _=>?_
 refine ae ⟨.inr V,_,V,_,_,(U),(HS.forget E),V,(h1.trans (ff_e M)).symm,M⟩
theorem dfexpr_c_aux: ∀(fuel:Nat) {a4:Option Addr} {a9:Nat} {a3:Option Addr} {a8:Nat} {a2:Option Addr} {a7:Nat} {a1:Option Addr} {a6:Nat} (x:ScpT) {a0:Option Addr} {a5:Nat} (e:ExpT) {F:Fz} {H:Heap} {R:List Fp} (hs:HS (.of H []) F H [] R) (Y:SR F (sL a1 x.vars.length a6) x.vars) (Z:SR F (sL a2 x.arrs.length a7) x.arrs) (al:SR F (sL a3 x.p.arrs.length a8) x.p.arrs) (an:SR F (sL a4 x.p.funs.length a9) x.p.funs) (b6:in64 e.kind) (b7:in64 e.n) (b8:in64 e.op) (U:SR F (sL a0 e.kids.length a5) e.kids) (hv:x.vars.length<4611686018427387904) (ha:x.arrs.length<4611686018427387904) (hn:ndE e<4611686018427387904),ndE e<fuel->kKt ex 60 [(aG [(sL a1 x.vars.length a6),(sL a2 x.arrs.length a7),(sL a3 x.p.arrs.length a8),(sL a4 x.p.funs.length a9)]),(aG [(iI e.kind),(iI e.n),(tX e.name.b),(iI e.op),(sL a0 e.kids.length a5)])] H (cb.Po11 F H R (dfE x.vars x.arrs e)):=by
 intro fuel;induction fuel with
 |zero=>intros;omega
 |succ fuel ih=>
 intro a4 a9 a3 a8 a2 a7 a1 a6 x a0 a5 e F H R hs Y Z al an b6 b7 b8 U hv ha hn e0;have dk:=nd_e e;have dn:=j8 e.kids;have b4:=df_e x.vars x.arrs e;refine av Tryz.func60 V V ?_;refine ai 1 V ?_;refine ab ?_;refine dB (cV hs V V) V V ?_;rintro _ H2 _ ⟨b1,rfl,cm,_⟩;refine dB (cV cm V V) V V ?_;rintro _ H4 _ ⟨b3,rfl,co,_⟩;refine za (.bool false) ?_;refine ah 3 V ?_;refine wr 2 [] 1 0 [5] [(5,(.int _ 0))] trivial V V fun _=>?_
 refine aq (fun(mm:Nat) f H'=> ∃(i:Nat) (F':Fz),Fz.le F F'/\HS _ F' H' [[(b1,.cells [_,_,_,_] _ _)],[(b3,.cells [_,_,_,_,_] _ _)]] R/\aJ f [(2,(pT b1 0)),(3,(pT b3 0)),(5,(.int _ (i:Int)))]/\mm=e.kids.length-i/\(f0 _ _ e.kids=f0 x.vars x.arrs (e.kids.drop i))/\(i<=e.kids.length)) _ ⟨0,_,fR,co,⟨V,V,V,trivial⟩,V,k_,M⟩ ?_;rintro c9 f6 H6 ⟨i,F6,T,E,b0,rfl,h1,hi⟩ cw;refine az _ b0 (fun _=>?_);clear b0;replace U:=U.mono T;replace Y:=Y.mono T;replace Z:=Z.mono T;replace al:=al.mono T;replace an:=an.mono T;refine ai 2 V ?_;refine cP 1 6 10 [] [(10,(.bool (decide ((i:Int)<(e.kids.length:Int)))))] (Hr_ 2 1 Hn_) E V V fun _=>?_
 refine zd 4 5 (fun c8=>?_) fun c8=>?_
 ·have qa:=nu (l:=e.kids) (i:=i) M;refine aC V ?_;obtain⟨c7,b2⟩:=Sv.view (SR.sv U E);obtain⟨cL,c0,c3,bl⟩:=ExpT.fx (b2 i);refine de 6 13 18 [] [(13,(aG [_,_,_,_])),(18,(aG [_,_,_,_,_]))] (Hr_ 0 0 (Hr_ 2 1 (Ha_ (Sv.ix (SR.sv U E)) (Hl_ 5 (qn 42 0 5 (hc0 (ExpT.vw (b2 i))) V V V V) Hn_)))) E V V fun _=>?_
  refine bH (W:=[]) (aX V V V) V V V (ih x _ (HS.call E.log0) Y Z al an M M M bl M M M M) (kb V) ?_;rintro _ ch ⟨dd,c6,ba,O,rfl,rfl⟩;refine⟨Wr.did O.log,fun b9 bb=>?_⟩;replace O:=HS.back E.log0 V O;replace O:=HS.lg O E bb;generalize ({ch with log:=b9}:Heap)=c4 at O⊢;refine wfv (cg V) ?_;refine bt 1 V ?_;refine zi 1 2 (fun ax=>?_) fun ax=>?_
  ·try simp only[BS]at ax
   have d3:=ds_no (vs:=x.vars) (aa:=x.arrs) (l:=e.kids) (i:=i) M (by simpa only[bp] using ax);refine wr 1 [] 4 4 [] [(4,(.bool false))] trivial V V fun _=>?_
   refine ae ⟨.inr V,_,V,_,_,(fT (T) ba),(HS.forget O),V,(b4.trans (df_no (h1.trans d3))).symm⟩
  try simp only[BS]at ax
  have ez:=ds_go (vs:=x.vars) (aa:=x.arrs) (l:=e.kids) (i:=i) M (by simpa only[bp] using ax);refine wr 1 [] 11 12 [5] [(5,(.int _ _))] (vA (vi) trivial) V V fun _=>?_
  refine cw _ _ _ ?_ ⟨i+1,_,(fT (T) ba),O,⟨V,V,V,trivial⟩,V,(h1.trans ez),M⟩;omega
 refine cP 1 21 42 [4] [(4,(.bool (((e.kind !=2)||fA _ _)&&((e.kind !=3)||fA _ _))))] (Hr_ 1 1 (Hl1_ 5 (fun _=>(ql 26 0 (h_ E V) V V)) (Hl1_ 7 (fun _=>(ql 9 2 (i_ E V) V V)) (Hc1_ 8 (fun _=>(di ex _ _ (HS.call E) Y M)) (Hl1_ 12 (fun _=>(ql 3 0 (i_ E V) V V)) (Hl2_ 16 (fun _ _=>(ql 26 1 (h_ E V) V V)) (Hl2_ 18 (fun _ _=>(ql 9 2 (i_ E V) V V)) (Hc2_ 19 (fun _ _=>(di ex _ _ (HS.call E) Z M)) Hn_)))))))) E V V fun _=>?_
 refine ae ⟨.inr V,_,V,_,_,(T),(HS.forget E),V,(b4.trans (df_go h1 M)).symm⟩
theorem kU{Y:Option Addr}{a0:Nat}{U:Option Addr}{ax:Nat}{T:Option Addr}{an:Nat}{O:Option Addr}{al:Nat}(x:ScpT){E:Option Addr}{Z:Nat}(e:ExpT)(hs:HS (.of H []) F H [] R)(a5:SR F (sL O x.vars.length al) x.vars)(a6:SR F (sL T x.arrs.length an) x.arrs)(a7:SR F (sL U x.p.arrs.length ax) x.p.arrs)(a8:SR F (sL Y x.p.funs.length a0) x.p.funs)(a1:in64 e.kind)(a2:in64 e.n)(a3:in64 e.op)(a4:SR F (sL E e.kids.length Z) e.kids)(hv:x.vars.length<4611686018427387904)(ha:x.arrs.length<4611686018427387904)(hn:ndE e<4611686018427387904):kKt ex 60 [(aG [(sL O x.vars.length al),(sL T x.arrs.length an),(sL U x.p.arrs.length ax),(sL Y x.p.funs.length a0)]),(aG [(iI e.kind),(iI e.n),(tX e.name.b),(iI e.op),(sL E e.kids.length Z)])] H (cb.Po11 F H R (dfE x.vars x.arrs e)):=
 dfexpr_c_aux ex (ndE e+1) x e hs a5 a6 a7 a8 a1 a2 a3 a4 hv ha hn (a0w _)
theorem dfstmt_c{a8:Option Addr}{b5:Nat}{a7:Option Addr}{b4:Nat}{b9:Option Addr}{cm:Nat}{a6:Option Addr}{b2:Nat}(x:ScpT){a5:Option Addr}{b0:Nat}{a4:Option Addr}{bl:Nat}{a3:Option Addr}{bb:Nat}{a2:Option Addr}{ba:Nat}{b8:Option Addr}{ck:Nat}(s:StmT)(hs:HS (.of H []) F H [] R)(Y:SR F (sL a6 x.vars.length b2) x.vars)(an:SR F (sL b9 x.arrs.length cm) x.arrs)(ax:SR F (sL a7 x.p.arrs.length b4) x.p.arrs)(a0:SR F (sL a8 x.p.funs.length b5) x.p.funs)(fl:in64 s.kind)(fu:in64 s.n)(f1:in64 s.at_.kind)(f2:in64 s.at_.n)(f3:in64 s.at_.op)(ci:SR F (sL b8 s.at_.kids.length ck) s.at_.kids)(f4:in64 s.val.kind)(e6:in64 s.val.n)(e7:in64 s.val.op)(a9:SR F (sL a2 s.val.kids.length ba) s.val.kids)(a1:SR F (sL a3 s.args.length bb) s.args)(e8:SR F (sL a4 s.thn.length bl) s.thn)(fb:SR F (sL a5 s.els.length b0) s.els)(hv:x.vars.length<4611686018427387904)(ha:x.arrs.length<4611686018427387904)(hf:x.p.funs.length<4611686018427387904)(hn:ndS s<4611686018427387904):kKt ex 89 [(aG [(sL a6 x.vars.length b2),(sL b9 x.arrs.length cm),(sL a7 x.p.arrs.length b4),(sL a8 x.p.funs.length b5)]),(aG [(iI s.kind),(tX s.name.b),(tX s.to.b),(iI s.n),(iI s.at_.kind),(iI s.at_.n),(tX s.at_.name.b),(iI s.at_.op),(sL b8 s.at_.kids.length ck),(iI s.val.kind),(iI s.val.n),(tX s.val.name.b),(iI s.val.op),(sL a2 s.val.kids.length ba),(sL a3 s.args.length bb),(sL a4 s.thn.length bl),(sL a5 s.els.length b0)])] H (cb.Po11 F H R (dfK x.vars x.arrs x.p s)):=by
 have g8:=ns_s s;have g9:=j8 s.args;refine av Tryz.func89 V V ?_;refine ai 1 V ?_;refine ab ?_;refine dB (cV hs V V) V V ?_;rintro _ H2 _ ⟨b1,rfl,e0,_⟩;refine dB (cV e0 V V) V V ?_;rintro _ H4 _ ⟨b3,rfl,e1,_⟩;refine za (.bool false) ?_;refine ah 3 V ?_;refine wr 2 [] 1 0 [5] [(5,(.int _ 0))] trivial V V fun _=>?_
 refine aq (fun(mm:Nat) f H'=> ∃(i:Nat) (F':Fz),Fz.le F F'/\HS _ F' H' [[(b1,.cells [_,_,_,_] _ _)],[(b3,.cells [_,_,_,_,_,_,_,_,_,_,_,_,_,_,_,_,_] _ _)]] R/\aJ f [(2,(pT b1 0)),(3,(pT b3 0)),(5,(.int _ (i:Int)))]/\mm=s.args.length-i/\(f0 _ _ s.args=f0 x.vars x.arrs (s.args.drop i))/\(i<=s.args.length)) _ ⟨0,_,fR,e1,⟨V,V,V,trivial⟩,V,k_,M⟩ ?_;rintro g4 f6 H6 ⟨i,F6,T,Z,dd,rfl,h1,hi⟩ e2;refine az _ dd (fun _=>?_);clear dd;replace a9:=a9.mono T;replace a1:=a1.mono T;replace ci:=ci.mono T;replace Y:=Y.mono T;replace an:=an.mono T;replace ax:=ax.mono T;replace a0:=a0.mono T;refine ai 2 V ?_;refine cP 1 6 10 [] [(10,(.bool (decide ((i:Int)<(s.args.length:Int)))))] (Hr_ 2 1 Hn_) Z V V fun _=>?_
 refine zd 4 6 (fun c8=>?_) fun c8=>?_
 ·have qa:=nu (l:=s.args) (i:=i) M;refine aC V ?_;obtain⟨go,dk⟩:=Sv.view (SR.sv a1 Z);obtain⟨e3,e4,e5,c9⟩:=ExpT.fx (dk i);refine de 6 13 18 [] [(13,(aG [_,_,_,_])),(18,(aG [_,_,_,_,_]))] (Hr_ 0 0 (Hr_ 2 1 (Ha_ (Sv.ix (SR.sv a1 Z)) (Hl_ 5 (qn 42 0 5 (hc0 (ExpT.vw (dk i))) V V V V) Hn_)))) Z V V fun _=>?_
  refine bH (W:=[]) (aX V V V) V V V (kU ex x _ (HS.call Z.log0) Y an ax a0 M M M c9 M M M) (kb V) ?_;rintro _ et ⟨g5,f5,c6,al,rfl,rfl⟩;refine⟨Wr.did al.log,fun d3 c7=>?_⟩;replace al:=HS.back Z.log0 V al;replace al:=HS.lg al Z c7;generalize ({et with log:=d3}:Heap)=fd at al⊢;refine wfv (cg V) ?_;refine bt 1 V ?_;refine zi 1 2 (fun b6=>?_) fun b6=>?_
  ·try simp only[BS]at b6
   have cL:=ds_no (vs:=x.vars) (aa:=x.arrs) (l:=s.args) (i:=i) M (by simpa only[bp] using b6);refine wr 1 [] 4 4 [] [(4,(.bool false))] trivial V V fun _=>?_
   refine ae ⟨.inr V,_,V,_,_,(fT (T) c6),(HS.forget al),V,(dk_1 (h1.trans cL)).symm⟩
  try simp only[BS]at b6
  have ar:=ds_go (vs:=x.vars) (aa:=x.arrs) (l:=s.args) (i:=i) M (by simpa only[bp] using b6);refine wr 1 [] 11 12 [5] [(5,(.int _ _))] (vA (vi) trivial) V V fun _=>?_
  refine e2 _ _ _ ?_ ⟨i+1,_,(fT (T) c6),al,⟨V,V,V,trivial⟩,V,(h1.trans ar),M⟩;omega
 refine sj 1 21 32 [] [(32,(.bool ((!(dfE _ _ _))||(!(dfE _ _ _)))))] (Hr_ 0 0 (Hr_ 2 1 (Hk_ 3 (jc Z fun _ _ j q=>kU ex x _ q (Y.mono j) (an.mono j) (ax.mono j) (a0.mono j) M M M (ci.mono j) M M M) (eY 6 (fun _=>(jn Z 98 0 4 0 V V V V V)) (eY 8 (fun _=>(jn Z 42 9 5 1 V V V V V)) (kI 9 (fun g1=>(jc Z fun _ _ j q=>kU ex x _ q (Y.mono j) (an.mono j) (ax.mono j) (a0.mono j) (by(try simp only[BS]at g1);(first|omega|(dsimp only;omega))) (by(try simp only[BS]at g1);(first|omega|(dsimp only;omega))) (by(try simp only[BS]at g1);(first|omega|(dsimp only;omega))) (a9.mono j) M M M)) Hn_)))))) Z V V fun fk ez em U E=>?_
 replace Y:=Y.mono U;replace an:=an.mono U;replace ax:=ax.mono U;replace a0:=a0.mono U;refine zi 1 3 (fun b7=>?_) fun b7=>?_
 ·try simp only[BS]at b7
  have cL:dfE x.vars x.arrs s.at_=false\/dfE x.vars x.arrs s.val=false:=by simpa only[bp] using b7
  refine wr 1 [] 4 4 [] [(4,(.bool false))] trivial V V fun _=>?_
  refine ae ⟨.inr V,_,V,_,_,(fT (T) U),(HS.forget E),V,(dk_2 cL).symm⟩
 try simp only[BS]at b7
 have ar:dfE x.vars x.arrs s.at_=true/\dfE x.vars x.arrs s.val=true:=by simpa only[bp] using b7
 refine cP 3 33 34 [] [(34,(.int _ _))] (Hr_ 1 1 Hn_) E V V fun _=>?_
 refine wr 1 [] 35 36 [] [(35,(.bool (s.kind==1)))] trivial V V fun _=>?_
 refine zi 1 1 (fun c3=>?_) fun c3=>?_
 ·try simp only[BS]at c3
  refine cP 1 37 41 [4] [(4,(.bool (fA _ _)))] (Hr_ 1 0 (Hr_ 3 1 (Hc_ 4 (di ex _ _ (HS.call E) Y M) Hn_))) E V V fun _=>?_
  refine ae ⟨.inr V,_,V,_,_,(fT (T) U),(HS.forget E),V,(by exact(dk_3 h1 M ar (by unfold swK;(repeat rw[if_neg M])<;>first|rfl|(rw[if_pos M]<;>rfl))).symm)⟩
 try simp only[BS]at c3
 refine wr 1 [] 42 43 [] [(42,(.bool (s.kind==6)))] trivial V V fun _=>?_
 refine zi 1 1 (fun c4=>?_) fun c4=>?_
 ·try simp only[BS]at c4
  refine cC 4 56 [] [(4,(.bool (fA x.vars s.name.b&&(decide ((0:Int)<=ffP x.p s.to.b)))))] (fun H'=> ∃F',Fz.le em F'/\HS (Base.of H []) F' H' [(fP b1 [(sL a6 x.vars.length b2),(sL b9 x.arrs.length cm),(sL a7 x.p.arrs.length b4),(sL a8 x.p.funs.length b5)]),(fP b3 [(iI s.kind),(tX s.name.b),(tX s.to.b),(iI s.n),(iI s.at_.kind),(iI s.at_.n),(tX s.at_.name.b),(iI s.at_.op),(sL b8 s.at_.kids.length ck),(iI s.val.kind),(iI s.val.n),(tX s.val.name.b),(iI s.val.op),(sL a2 s.val.kids.length ba),(sL a3 s.args.length bb),(sL a4 s.thn.length bl),(sL a5 s.els.length b0)])] R) ?_ ?_
  ·refine ab ?_;refine ad (v:=(pT b1 0)) (bP V V) V V ?_;refine ad (v:=(sL a6 x.vars.length b2)) (bc (i:=0) V V (h_ E V) V V) V V ?_;refine ad (v:=(pT b3 1)) (bP V V) V V ?_;refine ad (v:=(tX s.name.b)) (bc (i:=1) V V (i_ E V) V V) V V ?_;refine zc (mP ex x.vars s.name.b (HS.call E) Y M) ?_;rintro _ ez ⟨g6,rfl,rfl,rfl⟩;refine zm (.bool (fA x.vars s.name.b)) ?_;refine gJ (v:=(fA x.vars s.name.b)) V V (fun O=>?_) (fun O=>?_)
   ·have co:=O;try simp only[BS]at co
    refine ad (v:=(pT b1 2)) (bP V V) V V ?_;refine aA V O ?_;refine ad (v:=(aG [(sL a7 x.p.arrs.length b4),(sL a8 x.p.funs.length b5)])) (db (i:=2) V V V (h_ E V) V V V) V V ?_;refine aA V O ?_;refine ad (v:=(pT b3 2)) (bP V V) V V ?_;refine aA V O ?_;refine ad (v:=(tX s.to.b)) (bc (i:=2) V V (i_ E V) V V) V V ?_;refine aA V O ?_;refine zc (find_c ex x.p s.to.b (HS.call E) ax a0 M) ?_;rintro _ gm ⟨g7,f8,d1,ch,rfl,rfl,g3⟩;replace ch:=HS.back E V ch;refine aA V O ?_;refine ad (v:=(.bool (decide ((0:Int)<=ffP x.p s.to.b)))) (bd V V V V) V V ?_;refine ad (v:=(.bool (decide ((0:Int)<=ffP x.p s.to.b)))) (au V O V) V V ?_;refine za (.bool (decide ((0:Int)<=ffP x.p s.to.b))) ?_;refine ay ?_;exact ap ⟨V,⟨_,(fT fR d1),HS.sub ch (List.Sublist.refl _)⟩,(by repeat' first|exact Lr|refine Lu V ?_),(agC (congrArg Value.bool (show(decide ((0:Int)<=ffP x.p s.to.b))=(fA x.vars s.name.b&&(decide ((0:Int)<=ffP x.p s.to.b))) by simp only[↓O,BT])) agN)⟩
   have co:=O;try simp only[BS]at co
   refine bV V O V ?_;refine bV V O V ?_;refine bV V O V ?_;refine bV V O V ?_;refine bV V O V ?_;refine ad (v:=(.bool false)) (aD V O V) V V ?_;refine za (.bool false) ?_;refine ay ?_;exact ap ⟨V,⟨_,fR,HS.sub E (List.Sublist.refl _)⟩,(by repeat' first|exact Lr|refine Lu V ?_),(agC (congrArg Value.bool (show false=(fA x.vars s.name.b&&(decide ((0:Int)<=ffP x.p s.to.b))) by simp only[↓O,BT])) agN)⟩
  skip;rintro g2 f9 ⟨f7,dt,d2⟩;refine ai 1 V ?_;refine ae ⟨.inr V,_,V,(fA x.vars s.name.b&&(decide ((0:Int)<=ffP x.p s.to.b))),_,(fT (fT (T) U) dt),(HS.forget d2),V,(by exact(dk_3 h1 M ar (by unfold swK;(repeat rw[if_neg M])<;>first|rfl|(rw[if_pos M]<;>rfl))).symm)⟩
 try simp only[BS]at c4
 refine wT 1 [] 57 58 [] [(57,(.bool (s.kind==2)))] V fun _=>?_
 refine zi 1 3 (fun c5=>?_) fun c5=>?_
 ·try simp only[BS]at c5
  refine cP 1 59 63 [4] [(4,(.bool (fA x.arrs s.name.b)))] (Hr_ 1 0 (Hr_ 3 1 (Hc_ 4 (di ex x.arrs s.name.b (HS.call E) an M) Hn_))) E V V fun _=>?_
  refine ae ⟨.inr V,_,V,fA x.arrs s.name.b,_,(fT (T) U),(HS.forget E),V,(by exact(dk_3 h1 M ar (by unfold swK;(repeat rw[if_neg M])<;>first|rfl|(rw[if_pos M]<;>rfl))).symm)⟩
 try simp only[BS]at c5
 refine wT 1 [] 4 4 [] [(4,(.bool true))] V fun _=>?_
 refine ae ⟨.inr V,_,V,true,_,(fT (T) U),(HS.forget E),V,(by exact(dk_3 h1 M ar (by unfold swK;(repeat rw[if_neg M])<;>first|rfl|(rw[if_pos M]<;>rfl))).symm)⟩
theorem checks_c_aux: ∀(fuel:Nat) {a9:Option Addr} {b0:Nat} {a8:Option Addr} {bl:Nat} {a7:Option Addr} {bb:Nat} {a6:Option Addr} {ba:Nat} (x:ScpT) {df:Option Addr} {dp:Nat} (l:List StmT) (cnt:Bool) {F:Fz} {H:Heap} {R:List Fp} (hs:HS (.of H []) F H [] R) (Z:SR F (sL a6 x.vars.length ba) x.vars) (al:SR F (sL a7 x.arrs.length bb) x.arrs) (Y:SR F (sL a8 x.p.arrs.length bl) x.p.arrs) (O:SR F (sL a9 x.p.funs.length b0) x.p.funs) (hl:SR F (sL df l.length dp) l) (hv:x.vars.length<4611686018427387904) (ha:x.arrs.length<4611686018427387904) (hf:x.p.funs.length<4611686018427387904) (hn:fw l<4611686018427387904) (hc:cnt=true->kE x.vars x.arrs x.p l=true),fw l<fuel->kKt ex 59 [(aG [(sL a6 x.vars.length ba),(sL a7 x.arrs.length bb),(sL a8 x.p.arrs.length bl),(sL a9 x.p.funs.length b0)]),(sL df l.length dp),(.bool cnt)] H (cb.Po11 F H R (csS cnt x l)):=by
 intro fuel;induction fuel with
 |zero=>intros;omega
 |succ fuel ih=>
 intro a9 b0 a8 bl a7 bb a6 ba x df dp l cnt F H R hs Z al Y O hl hv ha hf hn hc h3;have hx:=mz l;refine av Tryz.func59 V V ?_;refine ai 1 V ?_;refine ab ?_;refine dB (cV hs V V) V V ?_;rintro _ H2 _ ⟨b1,rfl,et,_⟩;refine za (.bool false) ?_;refine ah 3 V ?_;refine wr 2 [] 1 0 [7] [(7,(.int _ 0))] trivial V V fun _=>?_
 refine aq (fun(mm:Nat) f H'=> ∃(i:Nat) (F':Fz),Fz.le F F'/\HS _ F' H' [[(b1,.cells [_,_,_,_] _ _)]] R/\aJ f [(1,(sL df _ dp)),(2,(.bool cnt)),(3,(pT b1 0)),(7,(.int _ (i:Int)))]/\mm=l.length-i/\(csS cnt x l=csS cnt x (l.drop i))/\(i<=l.length)) _ ⟨0,_,fR,et,⟨V,V,V,V,trivial⟩,V,k_,M⟩ ?_;rintro ht f4 H4 ⟨i,F4,a3,b9,c5,rfl,h1,hi⟩ c8;refine az _ c5 (fun _=>?_);clear c5;replace hl:=hl.mono a3;replace Z:=Z.mono a3;replace al:=al.mono a3;replace Y:=Y.mono a3;replace O:=O.mono a3;refine ai 2 V ?_;refine wr 1 [] 9 12 [] [(12,(.bool (decide ((i:Int)<(l.length:Int)))))] trivial V V fun _=>?_
 refine zd 4 5 (fun c6=>?_) fun c6=>?_
 ·have qa:=ns_at (l:=l) (i:=i) M;have qs:=ns_s (l.getD i default);have cL:=fun h=>cs_at (i:=i) (hc h) M
  have g5:=fun h=>(cL h).2.1
  have g6:=fun h=>(cL h).2.2
  refine ab ?_;obtain⟨T,c7⟩:=Sv.view (SR.sv hl b9);obtain⟨f7,f8,f9,gm,go,g1,e6,e7,d1,c4,ch,a1,a2⟩:=StmT.fx (c7 i);refine dA 4 0 15 18 [] [(18,(aG [_,_,_,_,_,_,_,_,_,_,_,_,_,_,_,_,_]))] (Ha_ (Sv.ix (SR.sv hl b9)) (Hl_ 3 (qn 87 0 17 (StmT.vw (c7 i)) V V V V) Hn_)) V V fun _=>?_
  refine zn b9 V fun d3 hh dn=>?_
  refine sgo 1 5 1 0 [] [] (Hr_ 5 1 Hn_) dn V V fun g2 hj U=>?_
  refine ah 3 V ?_;refine wr 1 [] 19 19 [] [(19,(.bool cnt))] trivial V V fun _=>?_
  refine zi 1 1 (fun b3=>?_) fun b3=>?_
  ·try simp only[BS]at b3
   have cl:=b3;have hJ:=ff_in (p:=x.p) (s:=l.getD i default) (cL cl).1;refine cC 20 40 [] [(40,(.bool (((l.getD i default).kind==6)&&(((l.getD i default).args.length:Int) !=((x.p.funs.getD (ffP x.p (l.getD i default).to.b).toNat default).pars.length:Int)))))] (fun H'=> ∃F',Fz.le F4 F'/\HS (Base.of H []) F' H' [(fP b1 [(sL a6 x.vars.length ba),(sL a7 x.arrs.length bb),(sL a8 x.p.arrs.length bl),(sL a9 x.p.funs.length b0)]),(fP d3 [(iI (l.getD i default).kind),(tX (l.getD i default).name.b),(tX (l.getD i default).to.b),(iI (l.getD i default).n),(iI (l.getD i default).at_.kind),(iI (l.getD i default).at_.n),(tX (l.getD i default).at_.name.b),(iI (l.getD i default).at_.op),(sL (cA (T i) 8) (l.getD i default).at_.kids.length (cK (T i) 8)),(iI (l.getD i default).val.kind),(iI (l.getD i default).val.n),(tX (l.getD i default).val.name.b),(iI (l.getD i default).val.op),(sL (cA (T i) 13) (l.getD i default).val.kids.length (cK (T i) 13)),(sL (cA (T i) 14) (l.getD i default).args.length (cK (T i) 14)),(sL (cA (T i) 15) (l.getD i default).thn.length (cK (T i) 15)),(sL (cA (T i) 16) (l.getD i default).els.length (cK (T i) 16))])] R) ?_ ?_
   ·refine aC V ?_;refine zp 0 ?_;refine zl 0 (HS.hc U.log0 (i:=1) V) ?_;refine wfv (bd V V V V) ?_;refine zfm (.bool ((l.getD i _).kind==6)) ?_;refine wf_gsT V V (fun E=>?_) (fun E=>?_)
    ·have b8:=E;try simp only[BS]at b8
     refine zp 14 ?_;refine bk V E ?_;refine zl 14 (HS.hc U.log0 (i:=1) V) ?_;refine bk V E ?_;refine bf (gA V V (SR.sv ch U.log0)) V V (lQ V) (jL _) ?_;refine bk V E ?_;refine zp 2 ?_;refine bk V E ?_;refine zp 3 ?_;refine bk V E ?_;refine zl 3 (HS.hc U.log0 (i:=0) V) ?_;refine bk V E ?_;refine zp 2 ?_;refine bk V E ?_;refine bf (v:=(aG [_,_])) (db (i:=2) V V V (HS.hc U.log0 (i:=0) V) V V V) V V (fZ V) (kb V) ?_;refine bk V E ?_;refine zp 2 ?_;refine bk V E ?_;refine zl 2 (HS.hc U.log0 (i:=1) V) ?_;refine bk V E ?_;refine bH (aX V V V) V V V (find_c ex x.p _ (HS.call U.log0) Y O M) (⟨.inl V,⟨.inl V,⟨.inl V,⟨.inl V,⟨.inr a0f,⟨.inr trivial,⟨.inr trivial,⟨.inr trivial,⟨.inr a0f,⟨.inr trivial,⟨.inl V,⟨.inl V,⟨.inl V,⟨.inl V,trivial⟩⟩⟩⟩⟩⟩⟩⟩⟩⟩⟩⟩⟩⟩) ?_;rintro _ d2 ⟨hw,g8,ci,an,rfl,rfl,hr⟩;refine⟨Wr.did an.log,fun dt c0=>?_⟩;replace an:=HS.back U.log0 V an;replace an:=HS.lg an U c0;generalize ({d2 with log:=dt}:Heap)=f3 at an⊢;replace O:=O.mono ci;refine bk V E ?_;refine wfv (v:=(.pointer (some ⟨_,sO (sL _ _ _)+(ffP x.p _).toNat *Rp.sz FunT,_⟩))) (fM V V V V (SR.sv O an.log0) (by(have:=hJ X;omega)) M) ?_;refine bk V E ?_;refine wfv (v:=(.pointer (some ⟨_,sO (sL _ _ _)+(ffP x.p _).toNat *Rp.sz FunT+1,_⟩))) (bP V V) ?_;refine bk V E ?_;obtain⟨f6,dk,dd⟩:=Sv.at (SR.sv O an.log0) (bj (x:=default) (show(ffP x.p (l.getD i default).to.b).toNat<x.p.funs.length from by(have:=hJ X;omega)));obtain⟨ez,e8,e0,fb,e1,fd,e2,fi,rfl,e3,e4,e5,c3,fl,fu,f1⟩:=dk;refine zl 1 dd ?_;refine bk V E ?_;refine bf (gA V V (SR.sv c3 an.log0)) V V (lQ V) (jL _) ?_;refine bk V E ?_;refine wfv (bd V V V V) ?_;refine wfv (v:=(.bool (((l.getD i _).args.length:Int) !=((x.p.funs.getD _ _).pars.length:Int)))) (au V E V) ?_;refine dT ?_;exact ap ⟨V,⟨_,(fT fR ci),HS.sub an (List.Sublist.refl _)⟩,(by repeat' first|exact Lr|refine Lu V ?_),(agC (congrArg _ (show(((l.getD i _).args.length:Int) !=((x.p.funs.getD _ _).pars.length:Int))=(((l.getD i _).kind==6)&&(((l.getD i _).args.length:Int) !=((x.p.funs.getD _ _).pars.length:Int))) by simp only[↓E,BT])) agN)⟩
    have b8:=E;try simp only[BS]at b8
    refine aK V E V ?_;refine aK V E V ?_;refine aK V E V ?_;refine aK V E V ?_;refine aK V E V ?_;refine aK V E V ?_;refine aK V E V ?_;refine aK V E V ?_;refine aK V E V ?_;refine aK V E V ?_;refine aK V E V ?_;refine aK V E V ?_;refine aK V E V ?_;refine aK V E V ?_;refine aK V E V ?_;refine wfv (v:=(.bool false)) (aD V E V) ?_;refine dT ?_;exact ap ⟨V,⟨_,fR,HS.sub U (List.Sublist.refl _)⟩,(by repeat' first|exact Lr|refine Lu V ?_),(agC (congrArg _ (show false=(((l.getD i _).kind==6)&&(((l.getD i _).args.length:Int) !=((x.p.funs.getD _ _).pars.length:Int))) by simp only[↓E,BT])) agN)⟩
   skip;rintro hq hk ⟨g7,ax,a5⟩;replace Z:=Z.mono ax;replace al:=al.mono ax;replace Y:=Y.mono ax;replace O:=O.mono ax;replace a1:=a1.mono ax;replace a2:=a2.mono ax;refine ai 1 V ?_;refine zi 1 2 (fun b2=>?_) fun b2=>?_
   ·have em:=b2;try simp only[BS]at em
    have ar:=cs_no (x:=x) (l:=l) (i:=i) M (.inl (cn_1 cl b2));refine wT 1 [] 6 6 [] [(6,(.bool false))] V fun _=>?_
    refine ae ⟨.inr V,_,V,false,_,(fT (a3) ax),(HS.forget a5),V,(h1.trans ar).symm⟩
   have fk:=cn_2 (x:=x) (s:=l.getD i default) cl b2;refine sj 1 45 58 [] [(58,(.bool ((!(csS cnt x (l.getD i default).thn))||(!(csS cnt x (l.getD i default).els)))))] (Hr_ 0 0 (Hr_ 2 1 (Hk_ 4 (jc a5 fun _ _ j q=>ih x (l.getD i default).thn cnt q (Z.mono j) (al.mono j) (Y.mono j) (O.mono j) (a1.mono j) M M M M M M) (eY 7 (fun _=>(jn a5 98 0 4 0 V V V V V)) (eY 9 (fun _=>(jl a5 39 16 1 V V V)) (kI 11 (fun _=>(jc a5 fun _ _ j q=>ih x (l.getD i default).els cnt q (Z.mono j) (al.mono j) (Y.mono j) (O.mono j) (a2.mono j) M M M M M M)) Hn_)))))) a5 V V fun g3 hm g9 ck co=>?_
   refine zi 1 2 (fun b4=>?_) fun b4=>?_
   ·try simp only[BS]at b4
    have ar:=cs_no (x:=x) (l:=l) (i:=i) M (.inr b4);refine wT 1 [] 6 6 [] [(6,(.bool false))] V fun _=>?_
    refine ae ⟨.inr V,_,V,false,_,(fT (fT (a3) ax) ck),(HS.forget co),V,(h1.trans ar).symm⟩
   try simp only[BS]at b4
   have hG:=cs_go (x:=x) (l:=l) (i:=i) M fk b4;refine wU 1 [] 13 14 [7] [(7,(iI ((i:Int)+1)))] (vi (n:=(i:Int)+1)) V fun _=>?_
   refine c8 _ _ _ ?_ ⟨i+1,_,(fT (fT (a3) ax) ck),(HS.sub co (a05 _ _)),⟨V,V,V,V,trivial⟩,V,(h1.trans hG),M⟩;omega
  try simp only[BS]at b3
  have cl:=b3;refine ab ?_;refine fQ 2 0 41 42 [] [(41,(aG [(sL a6 x.vars.length ba),(sL a7 x.arrs.length bb),(sL a8 x.p.arrs.length bl),(sL a9 x.p.funs.length b0)])),(42,(aG [(iI (l.getD i default).kind),(tX (l.getD i default).name.b),(tX (l.getD i default).to.b),(iI (l.getD i default).n),(iI (l.getD i default).at_.kind),(iI (l.getD i default).at_.n),(tX (l.getD i default).at_.name.b),(iI (l.getD i default).at_.op),(sL (cA (T i) 8) (l.getD i default).at_.kids.length (cK (T i) 8)),(iI (l.getD i default).val.kind),(iI (l.getD i default).val.n),(tX (l.getD i default).val.name.b),(iI (l.getD i default).val.op),(sL (cA (T i) 13) (l.getD i default).val.kids.length (cK (T i) 13)),(sL (cA (T i) 14) (l.getD i default).args.length (cK (T i) 14)),(sL (cA (T i) 15) (l.getD i default).thn.length (cK (T i) 15)),(sL (cA (T i) 16) (l.getD i default).els.length (cK (T i) 16))]))] (Hr_ 0 0 (Hr_ 1 1 Hn_)) U V V fun _=>?_
  refine zc (dfstmt_c ex x (l.getD i default) (HS.call U) Z al Y O M M M M M d1 M M M c4 ch a1 a2 M M M M) ?_;rintro _ ho ⟨hu,he,a0,a4,rfl,rfl⟩;replace a4:=HS.back U V a4;replace Z:=Z.mono a0;replace al:=al.mono a0;replace Y:=Y.mono a0;replace O:=O.mono a0;replace a1:=a1.mono a0;replace a2:=a2.mono a0;refine dA 1 3 44 44 [] [(44,(.bool (!(dfK x.vars x.arrs x.p (l.getD i default)))))] Hn_ (by kernel_rfl) V fun _=>?_
  refine ah 1 V ?_;refine zi 1 2 (fun b5=>?_) fun b5=>?_
  ·try simp only[BS]at b5
   have ar:=cs_no (x:=x) (l:=l) (i:=i) M (.inl (cn_3 cl b5));refine wT 1 [] 6 6 [] [(6,(.bool false))] V fun _=>?_
   refine ae ⟨.inr V,_,V,false,_,(fT (a3) a0),(HS.forget a4),V,(h1.trans ar).symm⟩
  try simp only[BS]at b5
  have fk:=cn_4 (x:=x) (s:=l.getD i default) cl b5;refine sj 1 45 58 [] [(58,(.bool ((!(csS cnt x (l.getD i default).thn))||(!(csS cnt x (l.getD i default).els)))))] (Hr_ 0 0 (Hr_ 2 1 (Hk_ 4 (jc a4 fun _ _ j q=>ih x (l.getD i default).thn cnt q (Z.mono j) (al.mono j) (Y.mono j) (O.mono j) (a1.mono j) M M M M M M) (eY 7 (fun _=>(jn a4 98 0 4 0 V V V V V)) (eY 9 (fun _=>(jl a4 39 16 1 V V V)) (kI 11 (fun _=>(jc a4 fun _ _ j q=>ih x (l.getD i default).els cnt q (Z.mono j) (al.mono j) (Y.mono j) (O.mono j) (a2.mono j) M M M M M M)) Hn_)))))) a4 V V fun g4 hp hg cm cw=>?_
  refine zi 1 2 (fun b6=>?_) fun b6=>?_
  ·try simp only[BS]at b6
   have ar:=cs_no (x:=x) (l:=l) (i:=i) M (.inr b6);refine wT 1 [] 6 6 [] [(6,(.bool false))] V fun _=>?_
   refine ae ⟨.inr V,_,V,false,_,(fT (fT (a3) a0) cm),(HS.forget cw),V,(h1.trans ar).symm⟩
  try simp only[BS]at b6
  have hG:=cs_go (x:=x) (l:=l) (i:=i) M fk b6;refine wU 1 [] 13 14 [7] [(7,(iI ((i:Int)+1)))] (vi (n:=(i:Int)+1)) V fun _=>?_
  refine c8 _ _ _ ?_ ⟨i+1,_,(fT (fT (a3) a0) cm),(HS.sub cw (a05 _ _)),⟨V,V,V,V,trivial⟩,V,(h1.trans hG),M⟩;omega
 refine wT 1 [] 6 6 [] [(6,(.bool true))] V fun _=>?_
 refine ae ⟨.inr V,_,V,true,_,(a3),(HS.forget b9),V,(h1.trans (cs_end M)).symm⟩
theorem checks_c{U:Option Addr}{an:Nat}{T:Option Addr}{al:Nat}{O:Option Addr}{Z:Nat}{E:Option Addr}{Y:Nat}(x:ScpT){ar:Option Addr}{a3:Nat}(l:List StmT)(cnt:Bool)(hs:HS (.of H []) F H [] R)(ax:SR F (sL E x.vars.length Y) x.vars)(a0:SR F (sL O x.arrs.length Z) x.arrs)(a1:SR F (sL T x.p.arrs.length al) x.p.arrs)(a2:SR F (sL U x.p.funs.length an) x.p.funs)(hl:SR F (sL ar l.length a3) l)(hv:x.vars.length<4611686018427387904)(ha:x.arrs.length<4611686018427387904)(hf:x.p.funs.length<4611686018427387904)(hn:fw l<4611686018427387904)(hc:cnt=true->kE x.vars x.arrs x.p l=true):kKt ex 59 [(aG [(sL E x.vars.length Y),(sL O x.arrs.length Z),(sL T x.p.arrs.length al),(sL U x.p.funs.length an)]),(sL ar l.length a3),(.bool cnt)] H (cb.Po11 F H R (csS cnt x l)):=
 checks_c_aux ex (fw l+1) x l cnt hs ax a0 a1 a2 hl hv ha hf hn hc (a0w _)
end Go.Proofs.YtapgbjedgcpffaaGreat.cc
